/- Joined contracts. No conditions. -/
import Derived.Test.YtgfdeiijblakfaaGreatCS
import Derived.Test.YtgfdeiijblakfaaGreatC01
import Derived.Test.YtgfdeiijblakfaaGreatC17
set_option maxHeartbeats 1000000
namespace Go.Proofs.YtgfdeiijblakfaaGreat.Qt
open Go Go.RowKit Go.Stg
theorem New_any (l:Q) (w:World) (hl:l.i64):
  Calls Tryz.prog 15 #[.agg #[.int .i64 l.b,.int .i64 l.o,.int .i64 l.r]] w fun e w'=>∃b,e=.returned (.pointer (some ⟨b,0,none⟩))∧Mod [] w w'∧w.heap.size≤b∧MeterAt w' b none l (fun _=>Q.zero):=by
 go_enter Tryz.func15,Tryz.ntmps15;go_wp2;go_ret;refine⟨w.heap.size+1,rfl,((Mod.refl _ _).alloc _).alloc _,by omega,hl,fun _=>by simp[Q.zero,Q.pos],?_,fun _=>rfl,by simp⟩;have:=at_alloc (w.alloc (Obj.cells #[Value.int IntKind.i64 l.b,Value.int IntKind.i64 l.o,Value.int IntKind.i64 l.r] 29 (0,0))) (Obj.cells #[.int .i64 l.b,.int .i64 l.o,.int .i64 l.r,.map none] 94 (0,0));simpa using this
theorem fitsE_zero {l x q:Q} (h:fitsE l x q=0) (hx:x.pos) (hl:l.i64):(x.add q).pos∧q.pos:=by
 unfold fitsE at h;split at h
 ·cases h
 ·rename_i hn;split at h
  ·rename_i hf;obtain⟨h1,h2,h3⟩:=hf;simp only[fitsB,Bool.and_eq_true,decide_eq_true_eq]at h1 h2 h3;simp only[negB,Bool.or_eq_true,decide_eq_true_eq]at hn;obtain⟨⟨a1,a2⟩,⟨b1,b2⟩,c1,c2⟩:=hx;obtain⟨⟨d1,d2⟩,⟨e1,e2⟩,g1,g2⟩:=hl;simp only[Q.pos,Q.add];omega
  ·cases h
theorem MapAt.put {w:World} {bm:Nat} {es:Array MapEntry} {c c':Nat} {f:Int→Q} {p:Int} {v:Q} (hb:w.heap[bm]? =some (.map (mput p (qv v) c es).1 c')) (hk:IKeys es.toList) (hg:∀k,(mget k es.toList).getD (qv Q.zero)=qv (f k)):
  MapAt w (some bm) (upd f p v):=by
 obtain⟨h1,h2⟩:=mput_spec p (qv v) c es hk;refine⟨_,_,hb,h1,fun k=> ?_⟩;rw[h2 k];unfold upd;split
 ·rfl
 ·exact hg k
theorem upd_pos {f:Int→Q} {p:Int} {v:Q} (hf:∀k,(f k).pos) (hv:v.pos):∀k,(upd f p v k).pos:=by
 intro k;unfold upd;split
 ·exact hv
 ·exact hf k
def Changed (v:Value) (b:Nat) (mo:Option Nat) (l:Q) (f:Int→Q) (w:World) (e:Ending) (w':World):Prop:=
 ∃mo',e=.returned v∧Mod (b::mo.toList) w w'∧MeterAt w' b mo' l f∧∀x,mo'=some x→mo=some x∨w.heap.size≤x
theorem Add_yes (p:Int) (q l:Q) (b:Nat) (mo:Option Nat) (f:Int→Q) (w:World) (hM:MeterAt w b mo l f) (h:fitsE l (f p) q=0):
  Calls Tryz.prog 82 #[.pointer (some ⟨b,0,none⟩),.int .i64 p,.agg #[.int .i64 q.b,.int .i64 q.o,.int .i64 q.r]] w (Changed (.int .i64 0) b mo l (upd f p ((f p).add q)) w):=by
 have hM1:=hM.mod ((Mod.refl [] w).alloc (.cells #[.int .i64 q.b,.int .i64 q.o,.int .i64 q.r] 29 (0,0))) (by simp);have hF:=Fits_any p q l b mo f _ hM1;rw[h]at hF;have HF:=Lib.hid hF;have hpos:=fitsE_zero h (hM.has p) hM.lim;have hx:=hM.has p;obtain⟨hap,⟨q1,q2⟩,⟨q3,q4⟩,q5,q6⟩:=hpos;obtain⟨⟨x1,x2⟩,⟨x3,x4⟩,x5,x6⟩:=hx;have hp':=upd_pos (p:=p) hM.has hap;clear hF h hM1;obtain⟨hl,hf,hb,hmap,hne⟩:=hM;have hlb:=lt_of hb;have hnil:∀w,(binOp .eql 92 (.map mo) (.map none)).run Tryz.prog w=.ok (.bool mo.isNone) w:=fun w=>run_eql_map_nil w _ _ _ mo Tryz.underlying92
 cases mo with
 |none=>
  simp only[Option.isNone_none]at hnil;have hmm:=fun w=>run_makeMap (P:=Tryz.prog) 92 w
  go_enter Tryz.func82,Tryz.ntmps82;go_wp2_with fail;refine HF.out.mono ?_;rintro e w1 ⟨rfl,hm1⟩;have hb1:=hm1.at (at_alloc_old hb) (by simp);have hq1:=hm1.at (at_alloc w _) (by simp);have hlt:=lt_of hb1;have hsz:=hm1.size;simp only[World.size_alloc]at hsz;have hcb:=cells_of hb1;have hfb:=frozen_of hb1;have hcq:=cells_of hq1;have hwm:((w1.setCell ⟨b,3,none⟩ (.map (some w1.heap.size))).alloc (.map #[] 0)).heap[w1.heap.size]? =some (.map #[] 0):=by
   have:=at_alloc (w1.setCell ⟨b,3,none⟩ (.map (some w1.heap.size))) (.map #[] 0);simpa[World.setCell]using this
  have hwb:=at_alloc_old (o:=.map #[] 0) (at_setCell (o:=3) (v:=.map (some w1.heap.size)) hb1);have hwq:=at_alloc_old (o:=.map #[] 0) (at_setCell_other (a:=⟨b,3,none⟩) (v:=.map (some w1.heap.size)) hq1 (by simp;omega));have hm2:Mod [b] w ((w1.setCell ⟨b,3,none⟩ (.map (some w1.heap.size))).alloc (.map #[] 0)):=((((Mod.refl [b] w).alloc _).nil_then hm1).setCell (.inl (by simp)) _).alloc _;have hlk:(Instr.lookup 92 (.map (some w1.heap.size)) (.int .i64 p) false).run Tryz.prog ((w1.setCell ⟨b,3,none⟩ (.map (some w1.heap.size))).alloc (.map #[] 0))=.ok (.agg #[.int .i64 0,.int .i64 0,.int .i64 0]) ((w1.setCell ⟨b,3,none⟩ (.map (some w1.heap.size))).alloc (.map #[] 0)):=
   run_lookup_int (z:=qv Q.zero) Tryz.underlying92 Tryz.underlying3 (fun w=>Tryz.zeroValue29 w) hwm trivial p
  go_wp2_with fail;have hWm:=at_alloc_old (o:=.cells #[.int .i64 0,.int .i64 0,.int .i64 0] 29 (0,0)) hwm;have hWb:=at_alloc_old (o:=.cells #[.int .i64 0,.int .i64 0,.int .i64 0] 29 (0,0)) hwb;have hWq:=at_alloc_old (o:=.cells #[.int .i64 0,.int .i64 0,.int .i64 0] 29 (0,0)) hwq;have hWx:_=some _:=at_alloc ((w1.setCell ⟨b,3,none⟩ (.map (some w1.heap.size))).alloc (.map #[] 0)) (.cells #[.int .i64 0,.int .i64 0,.int .i64 0] 29 (0,0));have hs:((w1.setCell ⟨b,3,none⟩ (.map (some w1.heap.size))).alloc (.map #[] 0)).heap.size=w1.heap.size+1:=by simp[World.setCell]
  have hm3:=hm2.alloc (.cells #[.int .i64 0,.int .i64 0,.int .i64 0] 29 (0,0));rw[hs]at hWx;clear hs hwm hwb hwq hm2 hlk hcb hfb hcq;generalize((w1.setCell ⟨b,3,none⟩ (.map (some w1.heap.size))).alloc (.map #[] 0)).alloc (.cells #[.int .i64 0,.int .i64 0,.int .i64 0] 29 (0,0))=W at*;have hes:IKeys (#[]:Array MapEntry).toList:=trivial;have hk1:=GW.cells (S:=[w1.heap.size]) hWb (by simp;omega);have hk2:=GW.cells (S:=[w1.heap.size]) hWq (by simp;omega);have hk3:=GW.cells (S:=[w1.heap.size]) hWx (by simp<;>omega);refine wp_region_stage (fun w'=>∃x:GW [w1.heap.size] W,w'=x.1) (fun w'=>Mod [] W w') (by kernel_rfl) (by kernel_rfl) (fun _ h=>InGW.of (h.mono (by simp))) (Mod.refl _ _).drew ?_;refine stage_quiet 21 (by kernel_rfl) ?_;simp only[tA,tB,tC,tD];(repeat go_big_quiet_step (fail));refine wpQuiet_nil ?_;refine stage_mapUpdate w1.heap.size #[] 0 p (qv (Q.zero.add q)) (fun w'=>Mod [w1.heap.size] W w'∧w'.heap[w1.heap.size]? =some (.map (mput p (qv (Q.zero.add q)) 0 #[]).1 (mput p (qv (Q.zero.add q)) 0 #[]).2)) rfl Tryz.underlying92 Tryz.underlying3 rfl rfl rfl (by first|rfl|simp[go_sem,qv,Q.add,Q.zero]) hes (fun w' h=>h.at hWm (by simp)) (fun w' h=>⟨(h.mono (by simp)).setMap (.inl (by simp)) _,at_setMap (h.at hWm (by simp))⟩) (fun w' h=>InGW.of h.1) ?_;simp only[Act.put];refine stage_nil fun w2 hm2=> ?_
  go_wp2;go_ret;have hfp:f p=Q.zero:=hmap p;rw[hfp];refine⟨some w1.heap.size,rfl,hm3.then hm2.1 (by simp;omega),⟨hl,by rw[←hfp];exact hp',hm2.1.at hWb (by simp;omega),MapAt.put hm2.2 hes (fun k=>by rw[hmap k];rfl),by simp;omega⟩,?_⟩;intro x hx;obtain rfl:=Option.some.inj hx;exact .inr (by omega)
 |some bm=>
  obtain⟨es,c,hbm,hes,hg⟩:=hmap;have hnb:b≠bm:=fun e=>hne (by rw[e])
  have hlbm:=lt_of hbm;simp only[Option.isNone_some]at hnil;go_enter Tryz.func82,Tryz.ntmps82;go_wp2_with fail;refine HF.out.mono ?_;rintro e w1 ⟨rfl,hm1⟩;have hb1:=hm1.at (at_alloc_old hb) (by simp);have hq1:=hm1.at (at_alloc w _) (by simp);have hbm1:=hm1.at (at_alloc_old hbm) (by simp);have hltm:=lt_of hbm1;have hlt:=lt_of hb1;have hsz:=hm1.size;simp only[World.size_alloc]at hsz;have hcb:=cells_of hb1;have hcq:=cells_of hq1;have hlk:(Instr.lookup 92 (.map (some bm)) (.int .i64 p) false).run Tryz.prog w1=.ok (.agg #[.int .i64 (f p).b,.int .i64 (f p).o,.int .i64 (f p).r]) w1:=by
   rw[run_lookup_int (z:=qv Q.zero) Tryz.underlying92 Tryz.underlying3 (fun w=>Tryz.zeroValue29 w) hbm1 hes p,hg p];rfl
  obtain⟨⟨a1,a2⟩,⟨a3,a4⟩,a5,a6⟩:=hap;simp only[Q.add]at a1 a2 a3 a4 a5 a6;go_wp2_with fail;have hWm:=at_alloc_old (o:=.cells #[.int .i64 (f p).b,.int .i64 (f p).o,.int .i64 (f p).r] 29 (0,0)) hbm1;have hWb:=at_alloc_old (o:=.cells #[.int .i64 (f p).b,.int .i64 (f p).o,.int .i64 (f p).r] 29 (0,0)) hb1;have hWq:=at_alloc_old (o:=.cells #[.int .i64 (f p).b,.int .i64 (f p).o,.int .i64 (f p).r] 29 (0,0)) hq1;have hWx:=at_alloc w1 (.cells #[.int .i64 (f p).b,.int .i64 (f p).o,.int .i64 (f p).r] 29 (0,0));have hm3:=(((Mod.refl [b,bm] w).alloc _).nil_then hm1).alloc (.cells #[.int .i64 (f p).b,.int .i64 (f p).o,.int .i64 (f p).r] 29 (0,0));clear hlk hcb hcq;generalize w1.alloc (.cells #[.int .i64 (f p).b,.int .i64 (f p).o,.int .i64 (f p).r] 29 (0,0))=W at*;have hk1:=GW.cells (S:=[bm]) hWb (by simp;omega);have hk2:=GW.cells (S:=[bm]) hWq (by simp;omega);have hk3:=GW.cells (S:=[bm]) hWx (by simp<;>omega);refine wp_region_stage (fun w'=>∃x:GW [bm] W,w'=x.1) (fun w'=>Mod [] W w') (by kernel_rfl) (by kernel_rfl) (fun _ h=>InGW.of (h.mono (by simp))) (Mod.refl _ _).drew ?_;refine stage_quiet 21 (by kernel_rfl) ?_;simp only[tA,tB,tC,tD];(repeat go_big_quiet_step (fail));refine wpQuiet_nil ?_;refine stage_mapUpdate bm es c p (qv ((f p).add q)) (fun w'=>Mod [bm] W w'∧w'.heap[bm]? =some (.map (mput p (qv ((f p).add q)) c es).1 (mput p (qv ((f p).add q)) c es).2)) rfl Tryz.underlying92 Tryz.underlying3 rfl rfl rfl (by first|rfl|simp[go_sem,qv,Q.add,Q.zero]) hes (fun w' h=>h.at hWm (by simp)) (fun w' h=>⟨(h.mono (by simp)).setMap (.inl (by simp)) _,at_setMap (h.at hWm (by simp))⟩) (fun w' h=>InGW.of h.1) ?_;simp only[Act.put];refine stage_nil fun w2 hm2=> ?_
  go_wp2;go_ret;refine⟨some bm,rfl,hm3.then hm2.1 (by simp),⟨hl,hp',hm2.1.at hWb (by simp;omega),MapAt.put hm2.2 hes hg,hne⟩,?_⟩;intro x hx;exact .inl hx
end Go.Proofs.YtgfdeiijblakfaaGreat.Qt
namespace Go.Proofs.YtgfdeiijblakfaaGreat
open Go Go.RowKit Go.Stg
abbrev Ext:=Int×Int
def proper (e:Ext):Prop:=0≤e.1∧0<e.2∧e.1+e.2≤1048576
def inE (x:Int) (e:Ext):Prop:=e.1≤x∧x<e.1+e.2
def inS (x:Int) (s:List Ext):Prop:=∃e∈s,inE x e
def VS (s:List Ext):Prop:=(∀e∈s,proper e)∧s.Pairwise fun a b=>a.1+a.2<b.1
theorem VS.nil:VS []:=⟨by simp,List.Pairwise.nil⟩
theorem VS.tail {a:Ext} {s:List Ext} (h:VS (a::s)):VS s:=⟨fun e he=>h.1 e (by simp[he]),(List.pairwise_cons.1 h.2).2⟩
theorem VS.head {a:Ext} {s:List Ext} (h:VS (a::s)):proper a∧∀b∈s,a.1+a.2<b.1:=⟨h.1 a (by simp),(List.pairwise_cons.1 h.2).1⟩
theorem VS.cons {a:Ext} {s:List Ext} (h:VS s) (ha:proper a) (hb:∀b∈s,a.1+a.2<b.1):VS (a::s):=
 ⟨fun e he=>by rcases List.mem_cons.1 he with rfl|h1;exact ha;exact h.1 e h1,List.pairwise_cons.2 ⟨hb,h.2⟩⟩
theorem VS.sub {s t:List Ext} (h:VS s) (hs:t.Sublist s):VS t:=⟨fun e he=>h.1 e (hs.subset he),h.2.sublist hs⟩
theorem VS.append {s t:List Ext} (hs:VS s) (ht:VS t) (h:∀a∈s,∀b∈t,a.1+a.2<b.1):VS (s++t):=
 ⟨fun e he=>by rcases List.mem_append.1 he with h1|h1;exact hs.1 e h1;exact ht.1 e h1,List.pairwise_append.2 ⟨hs.2,ht.2,h⟩⟩
theorem VS.apart {s t:List Ext} (h:VS (s++t)):VS s∧VS t∧∀a∈s,∀b∈t,a.1+a.2<b.1:=
 ⟨h.sub (List.sublist_append_left s t),h.sub (List.sublist_append_right s t),(List.pairwise_append.1 h.2).2.2⟩
theorem inS_nil (x:Int):¬inS x []:=by rintro⟨e,he,_⟩;cases he
theorem inS_cons {x:Int} {a:Ext} {s:List Ext}:inS x (a::s)↔inE x a∨inS x s:=by
 constructor
 ·rintro⟨e,he,h⟩;rcases List.mem_cons.1 he with rfl|h1
  ·exact .inl h
  ·exact .inr ⟨e,h1,h⟩
 ·rintro(h|⟨e,he,h⟩)
  ·exact⟨a,by simp,h⟩
  ·exact⟨e,by simp[he],h⟩
theorem inS_append {x:Int} {s t:List Ext}:inS x (s++t)↔inS x s∨inS x t:=by
 constructor
 ·rintro⟨e,he,h⟩;rcases List.mem_append.1 he with h1|h1
  ·exact .inl ⟨e,h1,h⟩
  ·exact .inr ⟨e,h1,h⟩
 ·rintro(⟨e,he,h⟩|⟨e,he,h⟩)
  ·exact⟨e,by simp[he],h⟩
  ·exact⟨e,by simp[he],h⟩
theorem VS.unique:∀ {s t:List Ext},VS s→VS t→(∀x,inS x s↔inS x t)→s=t
 | [],[],_,_,_=>rfl
 | [],b::t,_,ht,h=>by
  have hb:=ht.head.1;exact absurd ((h b.1).2 (inS_cons.2 (.inl (by unfold inE;unfold proper at hb;omega)))) (inS_nil _)
 |a::s,[],hs,_,h=>by
  have ha:=hs.head.1;exact absurd ((h a.1).1 (inS_cons.2 (.inl (by unfold inE;unfold proper at ha;omega)))) (inS_nil _)
 |a::s,b::t,hs,ht,h=>by
  obtain⟨pa,ga⟩:=hs.head;obtain⟨pb,gb⟩:=ht.head;unfold proper at pa pb;have low:∀ {c:Ext} {u:List Ext},VS (c::u)→∀x,inS x (c::u)→c.1≤x:=by
   intro c u hu x hx;have hc:=hu.head;unfold proper at hc;rcases inS_cons.1 hx with h1|⟨e,he,h1⟩
   ·exact h1.1
   ·have:=hc.2 e he;unfold inE at h1;omega
  have gap:∀ {c:Ext} {u:List Ext},VS (c::u)→¬inS (c.1+c.2) (c::u):=by
   intro c u hu hx;have hc:=hu.head;rcases inS_cons.1 hx with h1|⟨e,he,h1⟩
   ·unfold inE at h1;omega
   ·have:=hc.2 e he;unfold inE at h1;omega
  have e1:a.1=b.1:=by
   have h1:=low ht a.1 ((h a.1).1 (inS_cons.2 (.inl (by unfold inE;omega))));have h2:=low hs b.1 ((h b.1).2 (inS_cons.2 (.inl (by unfold inE;omega))));omega
  have e2:a.2=b.2:=by
   rcases Int.lt_trichotomy a.2 b.2 with hl|hl|hl
   ·exact absurd ((h (a.1+a.2)).2 (inS_cons.2 (.inl (by unfold inE;omega)))) (gap hs)
   ·exact hl
   ·exact absurd ((h (b.1+b.2)).1 (inS_cons.2 (.inl (by unfold inE;omega)))) (gap ht)
  have e:a=b:=Prod.ext e1 e2;subst e;have hst:s=t:=VS.unique hs.tail ht.tail fun x=>by
   have hx:=h x;rw[inS_cons,inS_cons]at hx;constructor
   ·intro h1;rcases hx.1 (.inr h1)with h2|h2
    ·obtain⟨e,he,h1⟩:=h1;have:=ga e he;unfold inE at h1 h2;omega
    ·exact h2
   ·intro h1;rcases hx.2 (.inr h1)with h2|h2
    ·obtain⟨e,he,h1⟩:=h1;have:=gb e he;unfold inE at h1 h2;omega
    ·exact h2
  rw[hst]
def meets (a b:Ext):Prop:=a.1<b.1+b.2∧b.1<a.1+a.2
theorem meets_iff {a b:Ext} (ha:0<a.2) (hb:0<b.2):meets a b↔∃x,inE x a∧inE x b:=by
 unfold meets inE;constructor
 ·intro h;rcases Int.le_total a.1 b.1 with hl|hl
  ·exact⟨b.1,by omega⟩
  ·exact⟨a.1,by omega⟩
 ·rintro⟨x,h1,h2⟩;omega
theorem remove_law {A C:List Ext} {a x:Ext} (h:VS (A++a::C)) (hx:proper x) (h1:a.1≤x.1) (h2:x.1+x.2≤a.1+a.2):
  VS (A++((if a.1<x.1 then [(a.1,x.1-a.1)]else [])++(if x.1+x.2<a.1+a.2 then [(x.1+x.2,a.1+a.2-(x.1+x.2))]else []))++C)∧
  ∀y,inS y (A++((if a.1<x.1 then [(a.1,x.1-a.1)]else [])++(if x.1+x.2<a.1+a.2 then [(x.1+x.2,a.1+a.2-(x.1+x.2))]else []))++C)↔inS y (A++a::C)∧¬inE y x:=by
 obtain⟨hA,haC,hAC⟩:=h.apart;obtain⟨pa,gC⟩:=haC.head;have hC:=haC.tail;have gA:∀b∈A,b.1+b.2<a.1:=fun b hb=>hAC b hb a (by simp)
 have gAC:∀b∈A,∀c∈C,b.1+b.2<c.1:=fun b hb c hc=>hAC b hb c (by simp[hc])
 unfold proper at pa hx;have mid:VS ((if a.1<x.1 then [(a.1,x.1-a.1)]else [])++(if x.1+x.2<a.1+a.2 then [(x.1+x.2,a.1+a.2-(x.1+x.2))]else [])):=by
  refine VS.append ?_ ?_ ?_
  ·split
   ·exact VS.nil.cons (by unfold proper;simp only;omega) (by simp)
   ·exact VS.nil
  ·split
   ·exact VS.nil.cons (by unfold proper;simp only;omega) (by simp)
   ·exact VS.nil
  ·intro p hp q hq;split at hp<;>split at hq<;>simp at hp hq;subst hp;subst hq;simp only;omega
 have low:∀p∈((if a.1<x.1 then [(a.1,x.1-a.1)]else [])++(if x.1+x.2<a.1+a.2 then [(x.1+x.2,a.1+a.2-(x.1+x.2))]else [])),a.1≤p.1∧p.1+p.2≤a.1+a.2:=by
  intro p hp;rcases List.mem_append.1 hp with h|h
  ·split at h<;>simp at h;subst h;simp only;omega
  ·split at h<;>simp at h;subst h;simp only;omega
 refine⟨(hA.append mid fun b hb p hp=>by have:=gA b hb;have:=low p hp;omega).append hC fun b hb c hc=> ?_,fun y=> ?_⟩
 ·rcases List.mem_append.1 hb with h|h
  ·exact gAC b h c hc
  ·have:=low b h;have:=gC c hc;omega
 ·have hmid:inS y ((if a.1<x.1 then [(a.1,x.1-a.1)]else [])++(if x.1+x.2<a.1+a.2 then [(x.1+x.2,a.1+a.2-(x.1+x.2))]else []))↔inE y a∧¬inE y x:=by
   have k1:∀(c:Prop) [Decidable c] (e:Ext),inS y (if c then [e]else [])↔c∧inE y e:=fun c _ e=>by
    split
    ·rename_i hc;rw[inS_cons];exact⟨fun h=>⟨hc,h.resolve_right (inS_nil _)⟩,fun h=>.inl h.2⟩
    ·rename_i hc;exact⟨fun h=>absurd h (inS_nil _),fun h=>absurd h.1 hc⟩
   rw[inS_append,k1,k1];unfold inE;simp only;omega
  rw[inS_append (t:=C),inS_append (s:=A),hmid,inS_append (s:=A) (t:=a::C),inS_cons];have d1:∀s:List Ext,(∀b∈s,b.1+b.2<a.1∨a.1+a.2<b.1)→inS y s→¬inE y x:=by
   rintro s hs ⟨b,hb,hy⟩ hyx;have:=hs b hb;unfold inE at hy hyx;omega
  have dA:=d1 A fun b hb=>.inl (gA b hb)
  have dC:=d1 C fun b hb=>.inr (gC b hb)
  constructor
  ·rintro((h|h)|h)
   ·exact⟨.inl h,dA h⟩
   ·exact⟨.inr (.inl h.1),h.2⟩
   ·exact⟨.inr (.inr h),dC h⟩
  ·rintro⟨h|h|h,hn⟩
   ·exact .inl (.inl h)
   ·exact .inl (.inr ⟨h,hn⟩)
   ·exact .inr h
theorem put_law {A C:List Ext} {e:Ext} (hA:VS A) (hC:VS C) (he:proper e) (h1:∀a∈A,a.1+a.2<e.1) (h2:∀c∈C,e.1+e.2<c.1):
  VS (A++e::C)∧∀y,inS y (A++e::C)↔inS y A∨inE y e∨inS y C:=by
 refine⟨hA.append (hC.cons he h2) fun a ha b hb=> ?_,fun y=>by rw[inS_append,inS_cons]⟩;rcases List.mem_cons.1 hb with rfl|hb
 ·exact h1 a ha
 ·have:=h1 a ha;have:=h2 b hb;unfold proper at he;omega
structure FreeOf (size:Int) (used fr:List Ext):Prop where
 vs:VS fr
 mem:∀x,inS x fr↔0≤x∧x<size∧¬inS x used
theorem FreeOf.unique {size:Int} {used s t:List Ext} (hs:FreeOf size used s) (ht:FreeOf size used t):s=t:=hs.vs.unique ht.vs fun x=>by rw[hs.mem,ht.mem]
theorem FreeOf.same {size:Int} {used used' s:List Ext} (hs:FreeOf size used s) (h:∀x,inS x used↔inS x used'):FreeOf size used' s:=⟨hs.vs,fun x=>by rw[hs.mem,h]⟩
structure UsedOk (size:Int) (used:List Ext):Prop where
 ok:∀e∈used,proper e∧e.1+e.2≤size
 dis:used.Pairwise fun a b=>¬meets a b
theorem FreeOf.part {size:Int} {used fr:List Ext} (h:FreeOf size used fr) {a:Ext} (ha:a∈fr):0≤a.1∧a.1+a.2≤size∧∀u∈used,0<u.2→¬meets a u:=by
 have pa:=h.vs.1 a ha;unfold proper at pa;have key:∀x,inE x a→0≤x∧x<size∧¬inS x used:=fun x hx=>(h.mem x).1 ⟨a,ha,hx⟩
 have k1:=key a.1 (by unfold inE;omega);have k2:=key (a.1+a.2-1) (by unfold inE;omega);refine⟨k1.1,by omega,fun u hu hu2 hm=> ?_⟩;obtain⟨x,h1,h2⟩:=(meets_iff (by omega) hu2).1 hm;exact(key x h1).2.2 ⟨u,hu,h2⟩
theorem FreeOf.alloc {size:Int} {used A C:List Ext} {a x:Ext} (h:FreeOf size used (A++a::C)) (hu:UsedOk size used) (hx:proper x) (h1:a.1≤x.1) (h2:x.1+x.2≤a.1+a.2):
  FreeOf size (used++[x]) (A++((if a.1<x.1 then [(a.1,x.1-a.1)]else [])++(if x.1+x.2<a.1+a.2 then [(x.1+x.2,a.1+a.2-(x.1+x.2))]else []))++C)∧UsedOk size (used++[x]):=by
 obtain⟨hv,hm⟩:=remove_law h.vs hx h1 h2;have hp:=h.part (a:=a) (by simp);refine⟨⟨hv,fun y=> ?_⟩,?_,?_⟩
 ·rw[hm,h.mem,inS_append,inS_cons];constructor
  ·rintro⟨⟨k1,k2,k3⟩,k4⟩;exact⟨k1,k2,fun k=>k.elim k3 fun k=>k.elim k4 (inS_nil _)⟩
  ·rintro⟨k1,k2,k3⟩;exact⟨⟨k1,k2,fun k=>k3 (.inl k)⟩,fun k=>k3 (.inr (.inl k))⟩
 ·intro e he;rcases List.mem_append.1 he with h'|h'
  ·exact hu.ok e h'
  ·obtain rfl:=List.mem_singleton.1 h';exact⟨hx,by omega⟩
 ·refine List.pairwise_append.2 ⟨hu.dis,List.pairwise_singleton _ _,fun u hu' b hb=> ?_⟩;obtain rfl:=List.mem_singleton.1 hb;have:=hp.2.2 u hu' (by have:=(hu.ok u hu').1;unfold proper at this;omega);unfold meets at*;omega
theorem dis_perm {A C:List Ext} {e:Ext} {size:Int} (hu:UsedOk size (A++e::C)):UsedOk size (A++C)∧∀u∈A++C,¬meets u e:=by
 have hd:=List.pairwise_append.1 hu.dis;have hd2:=List.pairwise_cons.1 hd.2.1;refine⟨⟨fun u h=>hu.ok u ?_,List.pairwise_append.2 ⟨hd.1,hd2.2,fun a ha b hb=>hd.2.2 a ha b (by simp[hb])⟩⟩,fun u h=> ?_⟩
 ·rcases List.mem_append.1 h with h|h<;>simp[h]
 ·rcases List.mem_append.1 h with h|h
  ·exact hd.2.2 u h e (by simp)
  ·have:=hd2.1 u h;unfold meets at*;omega
theorem FreeOf.free {size:Int} {A C fr fr':List Ext} {e:Ext} (h:FreeOf size (A++e::C) fr) (hu:UsedOk size (A++e::C)) (hv:VS fr') (hm:∀y,inS y fr'↔inS y fr∨inE y e):FreeOf size (A++C) fr':=by
 refine⟨hv,fun y=> ?_⟩;have he:=hu.ok e (by simp);unfold proper at he;rw[hm,h.mem,inS_append,inS_append,inS_cons];have hno:=(dis_perm hu).2;have hno':inE y e→¬(inS y A∨inS y C):=fun h1 h2=>by
  have:inS y (A++C):=inS_append.2 h2;obtain⟨u,hu',hy⟩:=this;have hpu:=(hu.ok u (by rcases List.mem_append.1 hu' with h|h<;>simp[h])).1;unfold proper at hpu;exact hno u hu' ((meets_iff (by omega) (by omega)).2 ⟨y,hy,h1⟩)
 constructor
 ·rintro(⟨k1,k2,k3⟩|k)
  ·exact⟨k1,k2,fun k=>k3 (k.elim .inl fun k=>.inr (.inr k))⟩
  ·exact⟨by unfold inE at k;omega,by unfold inE at k;omega,hno' k⟩
 ·rintro⟨k1,k2,k3⟩;by_cases hy:inE y e
  ·exact .inr hy
  ·exact .inl ⟨k1,k2,fun k=>k.elim (fun k=>k3 (.inl k)) fun k=>k.elim hy fun k=>k3 (.inr k)⟩
end Go.Proofs.YtgfdeiijblakfaaGreat
