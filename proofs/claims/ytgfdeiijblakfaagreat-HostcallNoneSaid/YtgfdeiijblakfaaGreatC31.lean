/- Joined contracts. No conditions. -/
import Derived.RangeFuncCalls
import Derived.RangeFuncNested
import Derived.OrdersIn
import Derived.Test.YtgfdeiijblakfaaGreatCS
import Derived.Test.YtgfdeiijblakfaaGreatC00
import Derived.Test.YtgfdeiijblakfaaGreatC07
import Derived.Test.YtgfdeiijblakfaaGreatC08
import Derived.Test.YtgfdeiijblakfaaGreatC09
import Derived.Test.YtgfdeiijblakfaaGreatC12
import Derived.Test.YtgfdeiijblakfaaGreatC14
import Derived.Test.YtgfdeiijblakfaaGreatC18
import Derived.Test.YtgfdeiijblakfaaGreatC20
import Derived.Test.YtgfdeiijblakfaaGreatC21
import Derived.Test.YtgfdeiijblakfaaGreatC25
import Derived.Test.YtgfdeiijblakfaaGreatC27
import Derived.Test.YtgfdeiijblakfaaGreatC29
import Derived.Test.YtgfdeiijblakfaaGreatC30
set_option maxRecDepth 20000
namespace Go.Proofs.YtgfdeiijblakfaaGreat
open Go Go.RowKit Go.Stg
open Ty (fcells)
theorem frOf_nil {size:Int} (h1:size≤1048576):frOf size []=gap 0 size:=by
 obtain⟨g1,g2⟩:=gap_law (at':=0) (to:=size) (Int.le_refl 0) h1;exact frOf_eq ⟨g1,fun x=>by rw[g2];simp[inS_nil]⟩
theorem alloc_x {size:Int} {used:List Ext} {B:List Int} (hk:ArOk size used B) {n:Int} (hn:findE (frOf size used) n=0):
  lenAt used (findX (frOf size used) n).1=none∧UsedOk size (used++[findX (frOf size used) n])∧∀fr',Less (frOf size used) fr' (findX (frOf size used) n)→frOf size (used++[findX (frOf size used) n])=fr':=by
 have hf:=hk.u.free hk.s1;obtain⟨A,C,a,h1,h2,h3,h4,h5⟩:=find_spec hf.vs hn;generalize findX (frOf size used) n=x at*;have hmem:a∈frOf size used:=by rw[h1];simp
 have hpa:=(hf.part hmem).2.2;rw[h1]at hf;obtain⟨k1,k2⟩:=hf.alloc hk.u h2 h3 h4;refine⟨?_,k2,fun fr' hl=> ?_⟩
 ·cases hx:lenAt used x.1 with
  |none=>rfl
  |some l=>
   exfalso;unfold lenAt at hx;rw[Option.map_eq_some_iff]at hx;obtain⟨e,he,_⟩:=hx;have e1:=List.mem_of_find?_eq_some he;have e2:e.1=x.1:=by simpa using List.find?_some he
   have e3:=hk.u.len e1;obtain⟨p1,p2,p3⟩:=h2;refine hpa e e1 e3 ?_;unfold meets;omega
 ·refine frOf_eq ⟨hl.1,fun y=> ?_⟩;rw[hl.2.1,h1,hf.mem,inS_append];constructor
  ·rintro⟨⟨q1,q2,q3⟩,q4⟩;exact⟨q1,q2,fun h=>h.elim q3 fun⟨e,he,hy⟩=>q4 (by simp at he;rw[←he];exact hy)⟩
  ·rintro⟨q1,q2,q3⟩;exact⟨⟨q1,q2,fun h=>q3 (.inl h)⟩,fun h=>q3 (.inr ⟨x,by simp,h⟩)⟩
theorem aralloc_no {ar:Nat} {size:Int} {used:List Ext} {B:List Int} {w:World} {f:List Nat} (h:(arC ar size used B).on w f) (n:Int) (hn:findE (frOf size used) n≠0):
  Calls Tryz.prog 81 #[.pointer (some ⟨ar,0,none⟩),.int .i64 n] w fun e w'=>e=.returned (.tuple #[.agg #[.int .i64 0,.int .i64 0],.int .i64 (findE (frOf size used) n)])∧Mod [] w w':=by
 obtain⟨hk,ab,bv,hH⟩:=h;have hf:=hk.u.free hk.s1;have hm0:=Lib.hid ((Mod.refl [] w).alloc (.cells #[.int .i64 0,.int .i64 0] 139));have hx0:=Lib.hid (at_alloc w (.cells #[.int .i64 0,.int .i64 0] 139));have hS:=Scene.start hH;have hpa:=Lib.hid fun w' (hm:Mod [] w w')=>parts_ok (hm.at (hS.block 0 rfl) (by simp))
 have hal:=Lib.hid fun w' (hm:Mod [] w w')=>alalloc_no (Comp.keep (alC ab (frOf size used) used) (hS.part 1 rfl).choose_spec.1 hm (by simp)) hf.vs n hn
 generalize findE (frOf size used) n=E at*;clear hS hH hk hf;go_enter Tryz.func81,Tryz.ntmps81;go_wp2_with fail;refine(hpa.out _ hm0.out).mono ?_;rintro e w1 ⟨rfl,hm1⟩;have hm1H:=Lib.hid (hm0.out.nil_then hm1);have hx1:=Lib.hid (hm1.at hx0.out (by simp));clear hm1 hpa hm0 hx0;go_wp2_with fail;refine(hal.out _ hm1H.out).mono ?_;rintro e w2 ⟨rfl,hm2⟩;have hm2H:=Lib.hid (hm1H.out.nil_then hm2);have hx2:=Lib.hid (hm2.at hx1.out (by simp));have hc:=cells_of hx2.out;have hfz:=frozen_of hx2.out;clear hm2 hal hm1H hx1;go_wp2_with fail;have hq:=at_setCell (o:=1) (v:=.int .i64 0) (at_setCell (o:=0) (v:=.int .i64 0) hx2.out);refine bodyPost_ret (ret_cell_tmp Tryz.results81 rfl rfl hq Tryz.underlying139 rfl (by kernel_rfl)) rfl ⟨rfl,?_⟩;exact((hm2H.out.setCell (p:=⟨w.heap.size,0,none⟩) (.inr (Nat.le_refl _)) (.int .i64 0)).setCell (p:=⟨w.heap.size,1,none⟩) (.inr (Nat.le_refl _)) (.int .i64 0))
theorem aralloc_yes {ar:Nat} {size:Int} {used:List Ext} {B:List Int} {w:World} {f:List Nat} (h:(arC ar size used B).on w f) (n:Int) (hn:findE (frOf size used) n=0) (hul:used.length≤5000):
  Calls Tryz.prog 81 #[.pointer (some ⟨ar,0,none⟩),.int .i64 n] w (Takes (arC ar size (used++[findX (frOf size used) n]) B) (.tuple #[.agg #[.int .i64 (findX (frOf size used) n).1,.int .i64 (findX (frOf size used) n).2],.int .i64 0]) w f):=by
 obtain⟨hk,ab,bv,hH⟩:=h;have hf:=hk.u.free hk.s1;have hl:=hk.u.free_len hk.s1;obtain⟨x1,x2,x3⟩:=alloc_x hk hn;have hS0:=Lib.hid ((Scene.start hH).alloc (.cells #[.int .i64 0,.int .i64 0] 139));have hpa:=Lib.hid fun w' (h':Scene f w (blockC w.heap.size (.cells #[.int .i64 0,.int .i64 0] 139 (0,0))::arP ar ab bv (frOf size used) used B) w')=>parts_ok (h'.block 1 rfl)
 have hal:=Lib.hid fun w' f' (h':(alC ab (frOf size used) used).on w' f')=>alalloc_yes h' hf.vs (by omega) n hn x1
 have hx2:=Lib.hid x2;have hx3:=Lib.hid x3;have hkH:=Lib.hid hk;generalize findX (frOf size used) n=X at*;obtain⟨xo,xl⟩:=X;clear hH hk hf hl x1 x2 x3 hn;go_enter Tryz.func81,Tryz.ntmps81;go_wp2_with fail;refine(hpa.out _ hS0.out).mono ?_;rintro e w1 ⟨rfl,hm1⟩;have hS1:=Lib.hid (hS0.out.then hm1);clear hm1 hpa hS0;go_wp2_with fail;obtain⟨fa,ha,hput⟩:=hS1.out.part 2 rfl;refine(hal.out _ _ ha).mono ?_;rintro e w2 ⟨fr',hless,f',rfl,q1,q2,q3⟩;have hS2:=Lib.hid (hput w2 f' _ q1 q2 q3);have hlessH:=Lib.hid hless;have hc:=cells_of (hS2.out.block 0 rfl);have hfz:=frozen_of (hS2.out.block 0 rfl);clear hput q1 q2 q3 hal hS1 ha hless;go_wp2_with fail;have hS3:=((hS2.out.blockSet 0 rfl 0 (.int .i64 xo)).blockSet 0 rfl 1 (.int .i64 xl));refine bodyPost_ret (ret_cell_tmp Tryz.results81 rfl rfl (hS3.block 0 rfl) Tryz.underlying139 rfl (by kernel_rfl)) rfl ?_;obtain⟨f6,p1,p2,p3⟩:=(hS3.erase 0).done;refine⟨f6,rfl,⟨⟨hkH.out.s1,hx2.out,by simp;omega,hkH.out.len,hkH.out.byte⟩,ab,bv,?_⟩,p2,p3⟩;rw[hx3.out _ hlessH.out];exact p1
theorem arnew_ok {F:List Nat} {W w:World} {cs:List Comp} (hS:Scene F W cs w) (size:Int) (h0:0≤size) (h1:size≤1048576):
  Calls Tryz.prog 16 #[.int .i64 size] w fun e w'=>∃ar,e=.returned (.tuple #[.pointer (some ⟨ar,0,none⟩),.int .i64 0])∧Scene F W (arC ar size [] (List.replicate size.toNat 0)::cs) w':=by
 obtain⟨n,rfl⟩:=Int.eq_ofNat_of_zero_le h0;have hal:=Lib.hid (alnew_ok hS n h0 h1);have hmk:=fun w=>make_bytes n (by omega) w
 have hmkH:=Lib.hid hmk;clear hS hmk;go_enter Tryz.func16,Tryz.ntmps16;go_wp2_with fail;refine hal.out.mono ?_;rintro e w1 ⟨ab,rfl,hS1⟩;have hS1H:=Lib.hid hS1;clear hS1 hal;obtain⟨w2,hr2,hrow,hm2⟩:=hmkH.out w1;have hrowH:=Lib.hid hrow;have hm2H:=Lib.hid hm2;have hgt:=hm2.size;clear hm2 hrow hmkH;go_wp2_with fail;go_ret2;have hlen:(List.replicate n (0:Int)).length=n:=by simp
 have hS2:=hS1H.out.add (c:=rowC (.slice (some ⟨w1.heap.size,0,none⟩) n n) n 5 1 (bvals (List.replicate n 0))) (f:=[w1.heap.size]) hm2H.out ⟨row_base hrowH.out (Nat.zero_le _),rfl⟩ (by simp);have hS3:=(hS2.alloc (.cells #[.pointer (some ⟨ab,0,none⟩),.slice (some ⟨w1.heap.size,0,none⟩) n n] 99)).out 2 rfl |>.out 1 rfl;refine⟨_,rfl,?_⟩;refine Scene.shut1 (c:=arC w2.heap.size n [] (List.replicate (n:Int).toNat 0)) [_,_,_] hS3 fun g hg=> ?_
 rw[Int.toNat_natCast];refine⟨⟨h1,⟨by simp,List.Pairwise.nil⟩,by simp,by simp,fun b hb=>by rw[List.eq_of_mem_replicate hb];omega⟩,ab,.slice (some ⟨w1.heap.size,0,none⟩) n n,?_⟩;unfold arP;rw[frOf_nil h1,hlen];exact hg
end Go.Proofs.YtgfdeiijblakfaaGreat
namespace Go.Proofs.YtgfdeiijblakfaaGreat.Ty
open Go Go.RowKit Go.Stg
attribute [local go_sem] Oper.semAt_some
theorem grown_mod {a b:World} (h:Mod [] a b) {row:Option Nat}:a.grownBy b row:=
 let hb:=h.below;⟨hb.os,hb.tape,hb.output,hb.size,fun k hk _=>hb.block k hk⟩
abbrev Elm:=Int×(Ty×Value)
def enc (x:Elm):Array Value:=#[.int .i64 x.1,.agg #[.int .i64 x.2.1.1,x.2.2]]
end Go.Proofs.YtgfdeiijblakfaaGreat.Ty
namespace Go.Proofs.YtgfdeiijblakfaaGreat.Ty
open Go Go.RowKit Go.Stg
attribute [local go_sem] Oper.semAt_some
theorem FieldsAt.slice {w:World} {v:Value} {fs:List Fld} (h:FieldsAt w v fs):∃a m c,v=.slice a m c:=by
 rcases h with⟨h,_⟩|⟨_,_,_,h,_⟩<;>exact⟨_,_,_,h⟩
theorem FieldsAt.grown {w w':World} {v:Value} {fs:List Fld} {row:Option Nat} (h:FieldsAt w v fs) (hg:w.grownBy w' row) (hr:∀r,row=some r→∃o:Obj,w.heap[r]? =some o∧o.isCells=false):FieldsAt w' v fs:=by
 rcases h with h|⟨sb,so,cap,rfl,h2,h3,h4⟩
 ·exact .inl h
 ·refine .inr ⟨sb,so,cap,rfl,Nat.lt_of_lt_of_le h2 hg.size,h3,fun i hi=> ?_⟩;obtain⟨a,b⟩:=h4 i hi;have hne:some sb≠row:=fun e=>by
   obtain⟨o,ho,hc⟩:=hr sb e.symm;unfold World.cell? at a;simp only[ho]at a;cases o<;>simp[Obj.isCells]at hc<;>simp at a
  have hb:∀j,w'.cell? ⟨sb,j,none⟩=w.cell? ⟨sb,j,none⟩:=fun j=>World.cell?_of_block (a:=⟨sb,j,none⟩) (hg.block sb h2 hne)
  exact⟨(hb _).trans a,(hb _).trans b⟩
end Go.Proofs.YtgfdeiijblakfaaGreat.Ty
namespace Go.Proofs.YtgfdeiijblakfaaGreat
open Go Go.RowKit Go.Stg
def StAt (w:World) (sm:Nat) (st:Int→Int):Prop:=∃es c,w.heap[sm]? =some (.map es c)∧IKeys es.toList∧∀k,mget k es.toList=if st k=0 then none else some (.bool (decide (st k=1)))
theorem StAt.mod {S:List Nat} {w w':World} {sm:Nat} {st:Int→Int} (h:StAt w sm st) (hm:Mod S w w') (hS:sm∉S):StAt w' sm st:=
 let ⟨es,c,h1,h2,h3⟩:=h;⟨es,c,hm.at h1 hS,h2,h3⟩
def stC (sm:Nat) (st:Int→Int):Comp:=
 ⟨fun w f=>StAt w sm st∧f=[sm],fun h hm hT=>⟨h.1.mod hm (hT sm (by rw[h.2];simp)),h.2⟩,fun h x hx=>by
  rw[h.2,List.mem_singleton]at hx;subst hx;obtain⟨_,_,h1,_⟩:=h.1;exact lt_of h1⟩
theorem StAt.look {w:World} {sm:Nat} {st:Int→Int} (h:StAt w sm st) (k:Int):(Instr.lookup 58 (.map (some sm)) (.int .i64 k) false).run Tryz.prog w=.ok (.bool (decide (st k=1))) w:=by
 obtain⟨es,c,h1,h2,h3⟩:=h;rw[run_lookup_int Tryz.underlying58 Tryz.underlying3 Tryz.zeroValue4 h1 h2,h3];by_cases e:st k=0
 ·rw[if_pos e,e];rfl
 ·rw[if_neg e];rfl
theorem StAt.look2 {w:World} {sm:Nat} {st:Int→Int} (h:StAt w sm st) (k:Int):(Instr.lookup 58 (.map (some sm)) (.int .i64 k) true).run Tryz.prog w=.ok (.tuple #[.bool (decide (st k=1)),.bool (decide (st k≠0))]) w:=by
 obtain⟨es,c,h1,h2,h3⟩:=h;rw[run_lookup_int2 Tryz.underlying58 Tryz.underlying3 Tryz.zeroValue4 h1 h2,h3];by_cases e:st k=0
 ·rw[if_pos e,e];rfl
 ·rw[if_neg e];simp[e]
theorem StAt.put {w:World} {sm:Nat} {st:Int→Int} (h:StAt w sm st) (p:Int) (b:Bool):∃w',(Instr.mapUpdate 58 (.map (some sm)) (.int .i64 p) (.bool b)).run Tryz.prog w=.ok () w'∧StAt w' sm (setI st p (if b=true then 1 else 2))∧Mod [sm] w w':=by
 obtain⟨es,c,h1,h2,h3⟩:=h;obtain⟨k1,k2⟩:=mput_spec p (.bool b) c es h2;refine⟨_,run_update_int (P:=Tryz.prog) Tryz.underlying58 Tryz.underlying3 h1 h2 p (.bool b),⟨_,_,at_setMap h1,k1,fun k=> ?_⟩,(Mod.refl [sm] w).setMap (.inl (by simp)) _⟩;rw[k2];unfold setI;by_cases e:k=p
 ·subst e;cases b<;>simp
 ·rw[if_neg e,if_neg e];exact h3 k
theorem StAt.congr {w:World} {sm:Nat} {st st':Int→Int} (h:StAt w sm st) (e:∀k,st k=st' k):StAt w sm st':=by
 obtain rfl:st=st':=funext e;exact h
theorem scene_st {F:List Nat} {W w:World} {cs:List Comp} (i:Nat) {sm:Nat} {st:Int→Int} (h:Scene F W cs w) (hi:cs[i]? =some (stC sm st)):StAt w sm st:=
 let ⟨_,h1,_⟩:=h.part i hi;h1.1
def meterC (b:Nat) (l:Qt.Q) (f:Int→Qt.Q):Comp:=
 ⟨fun w fp=>∃mo,Qt.MeterAt w b mo l f∧fp=b::mo.toList,fun⟨mo,h,e⟩ hm hT=>⟨mo,h.mod hm fun x hx=>hT x (by rw[e];exact hx),e⟩,fun⟨mo,h,e⟩ x hx=>by
  rw[e]at hx;rcases List.mem_cons.1 hx with rfl|hx
  ·exact lt_of h.blk
  ·rw[Option.mem_toList]at hx;exact h.map.lt x hx⟩
structure HA where
 hb:Nat
 ar:Nat
 rt:Nat
 tb:Nat
 lb:Nat
 mb:Nat
 gb:Nat
 sm:Nat
 ev:Value
 b:Nat
 pb:Nat
 sl:Value
def hpB (a:HA):Obj:=.cells #[.pointer (some ⟨a.ar,0,none⟩),.pointer (some ⟨a.rt,0,none⟩),.pointer (some ⟨a.tb,0,none⟩),.pointer (some ⟨a.lb,0,none⟩),.pointer (some ⟨a.mb,0,none⟩),.pointer (some ⟨a.gb,0,none⟩),.map (some a.sm)] 63 (0,0)
def hpP (a:HA) (c:HC) (R:List Ty.Ty) (T:Tb.TS) (L:List Bw.Bor) (evs:List Ev) (miss:List Int) (st:Int→Int) (u:List Ext) (B:List Int) (fm:Int→Qt.Q):List Comp:=
 [blockC a.hb (hpB a),arC a.ar c.size u B,Ty.regC 87 a.rt R,Tb.tabC a.tb a.ev a.b a.pb a.sl c.first T,Bw.ledC a.lb L,meterC a.mb c.lim fm,logC a.gb c.cap evs miss,stC a.sm st]
def hpOn (a:HA) (c:HC) (s:HS) (w:World) (f:List Nat):Prop:=∃B,ArIs c.size (obs c s) B∧Hold (hpP a c s.R s.T s.L s.evs s.miss s.st (usedH c s) B (hasH c s)) w f
def hpA (a:HA) (c:HC) (s:HS):Comp:=⟨hpOn a c s,fun⟨B,h1,h2⟩ hm hT=>⟨B,h1,h2.keep hm hT⟩,fun⟨_,_,h⟩=>h.lt⟩
section
variable {F:List Nat} {W w:World} {cs:List Comp} {a:HA} {c:HC} {s:HS}
theorem hp_open (h:Scene F W (hpA a c s::cs) w):∃B,ArIs c.size (obs c s) B∧Scene F W (hpP a c s.R s.T s.L s.evs s.miss s.st (usedH c s) B (hasH c s)++cs) w:=by
 obtain⟨h1,fp,⟨f,g,⟨B,hB,hf⟩,hg,hd,rfl⟩,h2⟩:=h;exact⟨B,hB,h1,f++g,hf.append hg hd,h2⟩
theorem hp_shut {B:List Int} (hB:ArIs c.size (obs c s) B) (h:Scene F W (hpP a c s.R s.T s.L s.evs s.miss s.st (usedH c s) B (hasH c s)++cs) w):Scene F W (hpA a c s::cs) w:=
 Scene.shut1 (c:=hpA a c s) _ h fun _ hg=>⟨B,hB,hg⟩
end
section
variable {w:World} {a:HA} (hb:w.heap[a.hb]? =some (hpB a))
include hb
theorem works_ok:Calls Tryz.prog 19 #[.pointer (some ⟨a.hb,0,none⟩)] w fun e w'=>e=.returned (.bool true)∧Mod [] w w':=by
 have hc:=cells_of hb;have hnil:∀w,(binOp .neq 58 (.map (some a.sm)) (.map none)).run Tryz.prog w=.ok (.bool true) w:=fun w=>run_neq_map_nil w _ _ _ (some a.sm) Tryz.underlying58
 clear hb;go_enter Tryz.func19,Tryz.ntmps19;go_wp2_with fail;go_ret;exact⟨rfl,Mod.refl _ _⟩
theorem alive_ok {st:Int→Int} (hs:StAt w a.sm st) (p:Int):Calls Tryz.prog 106 #[.pointer (some ⟨a.hb,0,none⟩),.int .i64 p] w fun e w'=>e=.returned (.bool (decide (st p=1)))∧Mod [] w w':=by
 have hbH:=Lib.hid hb;have hsH:=Lib.hid hs;have hwk:=Lib.hid (works_ok hb);clear hb hs;go_enter Tryz.func106,Tryz.ntmps106;go_wp2_with fail;refine hwk.out.mono ?_;rintro e w1 ⟨rfl,hm⟩;have hc:=cells_of (hm.at hbH.out (by simp));have hlk:=(hsH.out.mod hm (by simp)).look p;have hmH:=Lib.hid hm;clear hm hwk hbH;go_wp2_with fail;go_ret;exact⟨rfl,hmH.out⟩
end
theorem inrange_ok (n l m:Int) (w:World):Calls Tryz.prog 22 #[.int .i64 n,.int .i64 l,.int .i64 m] w fun e w'=>e=.returned (.bool (decide (l≤n)&&decide (n≤m)))∧Mod [] w w':=by
 by_cases h:l≤n
 ·have e1:decide (n≥l)=true:=by simp[h]
  rw[show decide (l≤n)=true by simp[h],Bool.true_and];go_enter Tryz.func22,Tryz.ntmps22;go_wp2_with fail;go_ret;exact⟨rfl,Mod.refl _ _⟩
 ·have e1:decide (n≥l)=false:=by simp;omega
  rw[show decide (l≤n)=false by simp;omega,Bool.false_and];go_enter Tryz.func22,Tryz.ntmps22;go_wp2_with fail;go_ret;exact⟨rfl,Mod.refl _ _⟩
end Go.Proofs.YtgfdeiijblakfaaGreat
namespace Go
namespace Stg
section
variable {P:Program}
theorem wp_region_part {id:Nat} {Q:Exit→Act→World→Prop} {a:Act} (fa:List Nat) {W:World} {l:List Oper} (hm:P.follows .mixedOrders=true) (hB:stageB .any l.toArray=true)
  (h:wpStage P l.toArray (fun w'=>∃x:GW fa W,w'=x.1) (LetsOut Q) (fun a' w'=>Q .normal a' w') l (fun w'=>Mod [] W w') a):(Code.region id l.toArray true).wp P Q a W:=
 wp_region_stage (fun w'=>∃x:GW fa W,w'=x.1) (fun w'=>Mod [] W w') hm hB (fun _ h=>InGW.of (h.mono (by simp))) (Mod.refl _ _).drew h
def Took (c':Comp) (fa:List Nat) (W w':World):Prop:=Mod fa W w'∧∃f',c'.on w' f'∧∀x∈f',x∈fa∨W.heap.size≤x
end
section
variable {P:Program} {ops:Array Oper} {Out:Prop} {Q:Act→World→Prop}
theorem stage_takes {fa:List Nat} {W:World} {c':Comp} (f:FuncId) (args:Array Value) (v:Value) {o:Oper} {rest:List Oper} {a:Act} {asx:Array Operand} {ts:Array TypeId}
  (hop:o.op=.call ⟨.value (.func f),asx,ts⟩) (hcall:∀(args:Array Value) w,(callFunc f args).run P w=.ok (.enter f args) w)
  (hw:Region.wanted o (yielded ops a.tmps)=true) (hargs:(asx.toList.map a.eval).toArray=args)
  (hc:∀w,Mod [] W w→Calls P f args w (Takes c' v w fa))
  (h:wpStage P ops (fun w'=>∃x:GW fa W,w'=x.1) Out Q rest (fun w'=>Took c' fa W w') (a.put o.dst v)):
  wpStage P ops (fun w'=>∃x:GW fa W,w'=x.1) Out Q (o::rest) (fun w'=>Mod [] W w') a:=
 stage_go f args v (fun w'=>Took c' fa W w') hop hcall hw hargs (fun w hm=>(hc w hm).mono fun _ _ ⟨f',he,k1,k2,k3⟩=>⟨he,(hm.mono (by simp)).trans k2,f',k1,fun x hx=>(k3 x hx).imp id fun h=>Nat.le_trans hm.size h⟩) (fun _ h=>InGW.of h.1) h
end
section
variable {P:Program} {ops:Array Oper} {I:World→Prop} {Out:Prop} {Q:Act→World→Prop}
theorem stage_set {o:Oper} {rest:List Oper} {C:World→Prop} {a:Act} {t:TypeId} {x y:Operand} {p:Addr} {u:Value} (f:World→World) (C':World→Prop) (hop:o.op=.store t x y) (hd:o.dst=none) (hw:Region.wanted o (yielded ops a.tmps)=true)
  (hx:a.eval x=.pointer (some p)) (hy:a.eval y=u) (hrun:∀w,C w→(Instr.storeAt t (.pointer (some p)) u).run P w=.ok () (f w)) (hC:∀w,C w→C' (f w)) (hI:∀w,C' w→I w) (h:wpStage P ops I Out Q rest C' a):
  wpStage P ops I Out Q (o::rest) C a:=by
 unfold wpStage;have he:eff o=true:=by simp[eff,hop]
 simp only[hw,he,if_true];refine⟨fun v=>v=undef,fun v w'=>v=undef∧C' w',⟨undef,rfl⟩,fun w hc=> ?_,fun v w hv=>⟨hv.1,.inr (hI w hv.2)⟩,fun v hv=> ?_⟩
 ·unfold gives;have hr:(execOp a.eval o).run P w=.ok .skip (f w):=by simp[execOp,hop,hx,hy,hrun w hc]
  rw[hr];exact⟨rfl,hC w hc⟩
 ·subst hv;have e:(fun(v:Value) w'=>v=undef∧C' w') undef=C':=by funext w';simp
  rw[e,hd];exact h
theorem wpStage_imp:∀ {l:List Oper} {C C':World→Prop} {a:Act},(∀w,C w→C' w)→wpStage P ops I Out Q l C' a→wpStage P ops I Out Q l C a
 | [],_,_,_,hC,h=>by
  unfold wpStage at*;exact fun w hw=>h w (hC w hw)
 |o::l,C,C',a,hC,h=>by
  unfold wpStage at*;split
  ·rename_i hw;simp only[hw,if_true]at h;split
   ·rename_i he;simp only[he,if_true]at h;obtain⟨V,R,h1,h2,h3,h4⟩:=h;exact⟨V,R,h1,fun w hw=>h2 w (hC w hw),h3,h4⟩
   ·rename_i he;simp only[he,if_false,Bool.false_eq_true]at h;obtain⟨v,h1,h2⟩:=h;exact⟨v,h1,wpStage_imp hC h2⟩
  ·rename_i hw;simp only[hw,if_false,Bool.false_eq_true]at h;exact wpStage_imp hC h
theorem stage_imp {l:List Oper} {C:World→Prop} {a:Act} (C':World→Prop) (hC:∀w,C w→C' w) (h:wpStage P ops I Out Q l C' a):wpStage P ops I Out Q l C a:=wpStage_imp hC h
end
theorem Scene.behind {F:List Nat} {W w:World} {c:Comp} {ds cs:List Comp} (h:Scene F W (c::(ds++cs)) w):Scene F W (ds++c::cs) w:=by
 obtain⟨hm,fp,⟨f,g,h1,h2,h3,rfl⟩,h4⟩:=h;obtain⟨f1,g1,k1,k2,k3,rfl⟩:=h2.parted;refine⟨hm,f1++(f++g1),Hold.append k1 ⟨f,g1,h1,k2,fun x hx hxg=>h3 x hx (List.mem_append_right _ hxg),rfl⟩ fun x hx hxg=> ?_,fun x hx=>h4 x ?_⟩
 ·rcases List.mem_append.1 hxg with h|h
  ·exact h3 x h (List.mem_append_left _ hx)
  ·exact k3 x hx h
 ·simp only[List.mem_append]at hx⊢;rcases hx with h|h|h
  ·exact .inr (.inl h)
  ·exact .inl h
  ·exact .inr (.inr h)
theorem Scene.takePart {F:List Nat} {W w:World} {cs:List Comp} (i:Nat) {c:Comp} (h:Scene F W cs w) (hi:cs[i]? =some c):
  ∃fa:List Nat,(∀w',Mod [] w w'→c.on w' fa)∧(∀(w':World) (c':Comp),Took c' fa w w'→Scene F W (cs.set i c') w')∧∀(j b:Nat) (o:Obj),(cs.eraseIdx i)[j]? =some (blockC b o)→b∉fa:=by
 obtain⟨fa,h1,h2,h3⟩:=h.partB i hi;exact⟨fa,fun w' hm=>Comp.keep c h1 hm (by simp),fun w' c' ⟨k1,f',k2,k3⟩=>h2 w' f' c' k2 k1 k3,h3⟩
end Stg
end Go
