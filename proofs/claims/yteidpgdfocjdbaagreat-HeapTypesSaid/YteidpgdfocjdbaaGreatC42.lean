/- Joined contracts. No conditions. -/
import Derived.Test.YteidpgdfocjdbaaGreatCS
import Derived.Test.YteidpgdfocjdbaaGreatC04
import Derived.Test.YteidpgdfocjdbaaGreatC31
import Derived.Test.YteidpgdfocjdbaaGreatC41
set_option maxHeartbeats 8000000
set_option maxRecDepth 100000
namespace Go.Proofs.YteidpgdfocjdbaaGreat
open Go Go.RowKit Go.Stg
attribute [local go_sem] Oper.semAt_some
theorem objects_at (q:Option Addr) (w:World):Calls Tryz.prog 47 #[.pointer q] w fun e w'=>e=.returned (.func (.func 90) #[] #[.pointer (some ⟨w.heap.size,0,none⟩)])∧w'=w.alloc (.cells #[.pointer q] 27):=by
 go_enter Tryz.func47,Tryz.ntmps47;go_wp2_with fail;go_ret;exact⟨rfl,rfl⟩
def encOb (x:ObX):Array Value:=#[.agg (obCell x).toArray]
def RowAv (n₀:Nat) (Av:World→Nat→Prop) (W:World) (v:Value):Prop:=∀g,v.ownBlock=some g→n₀≤g∧Av W g
theorem row_keeps {n₀:Nat} {Av:World→Nat→Prop} {W W':World} {base e sz n:Nat} {v:Value} {xs:List Value} (h:W.ownsRow base e sz v n xs) (ha:RowAv n₀ Av W v) (hk:Tb.Keeps n₀ Av W W'):W'.ownsRow base e sz v n xs∧RowAv n₀ Av W' v:=by
 refine⟨Tb.row_same h fun g cs fr hg hb=>(hk.2 g cs _ fr (ha g hg).1 (ha g hg).2 hb).1,fun g hg=>⟨(ha g hg).1,?_⟩⟩;rcases h.2 with⟨rfl,_⟩|⟨g',cap,cur,rfl,h2,h3,_⟩
 ·cases hg
 ·have:some g'=some g:=hg;obtain rfl:=Option.some.inj this;exact(hk.2 g' _ _ _ (ha g' hg).1 (ha g' hg).2 h3).2
theorem objsC_says (n':Nat) (hn':1≤n') (Bs n₀:Nat) (Av:World→Nat→Prop) {a:HA} {c:HC} {k:Nat} {s:HS} (hc:c.Ok) (hI:HInv c k s) (hk:k≤1000) (w:World) (hBs:w.heap[Bs]? =some (.cells #[.pointer (some ⟨a.hb,0,none⟩)] 27 (0,0))) (hn₀:n₀≤w.heap.size) {f:List Nat} (hH:(hpA a c s).on w f)
  (hAv:∀W W2 k,RowKit.Below w.heap.size w W→RowKit.Below W.heap.size W W2→W.heap.size≤k→Av W2 k) (hAvm:∀W W' k,w.heap.size≤W.heap.size→Mod [] W W'→Av W k→Av W' k):
  SeqSays Fence.wide n' Tryz.prog 90 #[.pointer (some ⟨Bs,0,none⟩)] encOb (fun pre x V=>(pre++[x]).map (·.1)<+:Tb.liveP s.T c.n∧ObIn s n₀ V x) (Tb.Keeps n₀ Av) (fun ys=>ys.map (·.1)=Tb.liveP s.T c.n) (fun pre=>pre.map (·.1)<+:Tb.liveP s.T c.n) (Tb.liveP s.T c.n).length w:=by
 intro l J Jx W hW hJ _ h00 hY;have hmW:Mod [] w W:=Mod.of_below hW;have hcc:=cells_of (hmW.at hBs (by simp));have hob:=Lib.hid (objs_ok hc hI hk (Scene.own1 (Comp.keep _ hH hmW (by simp))));have hJH:=Lib.hid hJ;have h00H:=Lib.hid h00;have hYH:=Lib.hid hY;have hAvH:=Lib.hid fun W2 k h1 h2=>hAv W W2 k hW h1 h2
 have hnW:=Lib.hid (Nat.le_trans hn₀ hW.size);have hAvmH:=Lib.hid hAvm;have hwW:=Lib.hid hW.size;clear hJ h00 hY hBs hmW hH hAv hAvm hW hn₀;refine callsIn_of_wp Tryz.func90 rfl trivial ?_ rfl;simp only[Tryz.ntmps90,List.size_toArray,List.length_cons,List.length_nil,Nat.reduceAdd,Nat.reduceSub,Array.replicate_succ,Array.replicate_zero,List.push_toArray,List.append_toArray,List.nil_append,List.cons_append];gi_wp2_with fail;refine⟨trivial,(callsIn_wide.2 hob.out).mono ?_⟩;rintro e w1 ⟨X,v,rfl,hX,hrow,hin,hm1⟩;obtain⟨va,vl,vc,rfl⟩:=row_form hrow;have hln:=fun ty w'=>row_len (ty:=ty) Tryz.underlying53 hrow w'
 have hJ1:=Lib.hid (hJH.out _ _ _ none h00H.out (Bw.grown_mod hm1) (by simp));have hav:∀ {e sz n:Nat} {u:Value} {xs:List Value},w1.ownsRow W.heap.size e sz u n xs→RowAv n₀ Av w1 u:=fun hr g hg=>⟨Nat.le_trans hnW.out (hr.lt g hg).1,hAvH.out w1 g hm1.below (hr.lt g hg).1⟩
 have hXH:=Lib.hid hX;have h0:=Lib.hid (show w1.ownsRow W.heap.size 60 6 (.slice va vl vc) X.length (flat obCell X)∧RowAv n₀ Av w1 (.slice va vl vc)∧∀x∈X,ObIn s W.heap.size w1 x∧RowAv n₀ Av w1 x.2.1∧RowAv n₀ Av w1 x.2.2 from
  ⟨hrow,hav hrow,fun x hx=>⟨hin x hx,hav (hin x hx).1,hav (hin x hx).2⟩⟩)
 have hxl:X.length=(Tb.liveP s.T c.n).length:=by rw[←hX,List.length_map]
 have hxlH:=Lib.hid hxl;have hXb:X.length≤4096:=by have h1:=Tb.liveP_len s.T c.n;have h2:=hc.n;omega
 have hsz1:=Lib.hid hm1.size;clear hob hrow hin hm1 hav hX hcc h00H hAvH hxl;generalize W.heap.size=B0 at*
 gi_wp2_with fail
 gi_loopw [8] (fun i wr=>∃r:Nat,r≤X.length∧i=.int .i64 r∧J (X.take r) wr∧B0≤wr.heap.size∧wr.ownsRow B0 60 6 (.slice va vl vc) X.length (flat obCell X)∧RowAv n₀ Av wr (.slice va vl vc)∧∀x∈X,ObIn s B0 wr x∧RowAv n₀ Av wr x.2.1∧RowAv n₀ Av wr x.2.2) (fun i _=>X.length-(intOf i).toNat)
 case atStart=>exact⟨0,Nat.zero_le _,rfl,hJ1.out,hsz1.out,h0.out.1,h0.out.2.1,h0.out.2.2⟩
 case round=>
  obtain⟨r,hr,rfl,hJs,hB0,hr1,ha1,hin⟩:=hrel;have hB0H:=Lib.hid hB0;clear h0 hJ1 hB0;by_cases hlt:r<X.length
  ·obtain⟨g1,c1,hsl,_,_⟩:=row_pos hr1 (by omega);cases hsl;have r0:=row_cell obCell_length hr1 hlt rfl (k:=0) (by omega);have r1:=row_cell obCell_length hr1 hlt rfl (k:=1) (by omega);have r2:=row_cell obCell_length hr1 hlt rfl (k:=2) (by omega);have r3:=row_cell obCell_length hr1 hlt rfl (k:=3) (by omega);have r4:=row_cell obCell_length hr1 hlt rfl (k:=4) (by omega);have r5:=row_cell obCell_length hr1 hlt rfl (k:=5) (by omega);have htk:X.take r++[X[r]]=X.take (r+1):=by rw[List.take_add_one,List.getElem?_eq_getElem hlt];rfl
   obtain⟨i0,i1,i2⟩:=hin X[r] (List.getElem_mem hlt);have hyy:=fun W' (hm:Mod [] wr W')=>hYH.out (X.take r) X[r] W' (hJH.out _ _ _ none hJs (Bw.grown_mod hm) (by simp)) ⟨by rw[htk, ←hXH.out,List.map_take];exact List.take_prefix _ _,row_base (row_mod i0.1 hm (by simp)) hnW.out,row_base (row_mod i0.2 hm (by simp)) hnW.out⟩ (by rw[List.length_take];have:=hxlH.out;omega)
   rw[htk]at hyy;have hyyH:=Lib.hid hyy;have hr1H:=Lib.hid hr1;have ha1H:=Lib.hid ha1;have hinH:=Lib.hid hin;obtain⟨ba,bl,bc,hbv⟩:=row_form i0.1;obtain⟨wa,wl,wc,hwv⟩:=row_form i0.2;clear htk hr1 ha1 hin hJs hyy i0 i1 i2 hYH;generalize X[r]=x at*;rcases x with⟨⟨ps,eh,eo,et,ef,el⟩,bv,wv⟩
   simp only at hbv hwv;subst hbv hwv;simp only[obCell,List.getElem?_cons_zero,List.getElem?_cons_succ,Nat.add_zero]at r0 r1 r2 r3 r4 r5;have hmb:=(Mod.refl [] wr).alloc (.cells #[.int .u64 eh,.int .i64 eo,.int .i64 ef,.int .i64 el,.slice ba bl bc,.slice wa wl wc] 60);obtain⟨fn,tmps,assign,body,hy,hR⟩:=hyyH.out _ hmb;unfold encOb obCell at hy;simp only at hy;have hmbH:=Lib.hid hmb;clear hmb
   gi_wp2_with fail
   refine hR.mono ?_;rintro e W3 (⟨rfl,hJ3,hk3⟩|⟨rfl,hJx3⟩)
   ·clear r0 r1 r2 r3 r4 r5 hy;have hJ3:=Lib.hid hJ3;have hk3:=Lib.hid hk3
    gi_wp2_with fail
    go_roundw
    case rel=>
     have kp:∀ {base e sz n:Nat} {u:Value} {xs:List Value},wr.ownsRow base e sz u n xs→RowAv n₀ Av wr u→W3.ownsRow base e sz u n xs∧RowAv n₀ Av W3 u:=fun h1 h2=>
      row_keeps (row_mod h1 hmbH.out (by simp)) (fun g hg=>⟨(h2 g hg).1,hAvmH.out wr _ g (Nat.le_trans hwW.out hB0H.out) hmbH.out (h2 g hg).2⟩) hk3.out
     obtain⟨k1,k2⟩:=kp hr1H.out ha1H.out;have hs3:=hk3.out.1;rw[World.size_alloc]at hs3;refine⟨r+1,by omega,by go_num,hJ3.out,by have:=hB0H.out;omega,k1,k2,fun x hx=> ?_⟩;obtain⟨⟨j1,j2⟩,j3,j4⟩:=hinH.out x hx;obtain⟨l1,l2⟩:=kp j1 j3;obtain⟨l3,l4⟩:=kp j2 j4;exact⟨⟨l1,l3⟩,l2,l4⟩
    case measure=>simp[intOf];omega
   ·clear r0 r1 r2 r3 r4 r5 hy
    gi_wp2_with fail
    refine bodyPost_ret (results_none rfl _ _ _) rfl ?_;exact⟨⟨_,rfl⟩,.inr ⟨_,by rw[←hXH.out,List.map_take];exact List.take_prefix _ _,hJx3⟩⟩
  ·obtain rfl:r=X.length:=by omega
   gi_wp2_with fail
   go_end0;exact⟨⟨_,rfl⟩,.inl ⟨X,hXH.out,by simpa using hJs⟩⟩
attribute [local go_sem] Oper.semAt_some
def ObsJ (s:HS) (q:Nat) (pre:List ObX) (W:World):Prop:=
 ∃v:Value,Boxed W q 53 v∧W.ownsRow q 60 6 v pre.length (flat obCell pre)∧∀x∈pre,ObIn s q W x
theorem ObsJ.own (s:HS) (q B:Nat):OwnFrom B (fun pre W=>ObsJ s q pre W):=by
 rintro pre X Y row ⟨v,h2,h3,h4⟩ hg hr;have no:∀r,row=some r→∃o:Obj,X.heap[r]? =some o∧o.isCells=false:=fun r e=>(hr r e).2
 refine⟨v,boxed_own q 53 (fun(_:Unit)=>v) () X Y row h2 hg no,Tb.row_same h3 fun g cs fr e hc=> ?_,fun x hx=>(h4 x hx).grown hg fun r e=> ?_⟩
 ·refine(hg.block g (lt_of hc) fun e'=> ?_).trans hc;obtain⟨o,ho,hno⟩:=no g e'.symm;rw[hc]at ho;cases ho;cases hno
 ·obtain⟨o,ho,hno⟩:=no r e;refine⟨o,ho,fun cs fr=>⟨fun e=> ?_,fun e=> ?_⟩⟩<;>(rw[e]at hno;cases hno)
theorem lawobjs_ok {a:HA} {c:HC} {k:Nat} {s:HS} (hc:c.Ok) (hI:HInv c k s) (hk:k≤1000) {w:World} {f:List Nat} (hH:(hpA a c s).on w f):
  Calls Tryz.prog 14 #[.pointer (some ⟨a.hb,0,none⟩)] w fun e w'=>∃(X:List ObX) (v:Value),e=.returned v∧X.map (·.1)=Tb.liveP s.T c.n∧w'.ownsRow w.heap.size 60 6 v X.length (flat obCell X)∧(∀x∈X,ObIn s w.heap.size w' x)∧Mod [] w w':=by
 have hn:=hc.n;refine(callsIn_wide (n:=5)).1 ?_;refine callsIn_of_wp_marks Tryz.func14 rfl trivial ?_ rfl;simp only[Tryz.ntmps14,List.size_toArray,List.length_cons,List.length_nil,Nat.reduceAdd,Nat.reduceSub,Array.replicate_succ,Array.replicate_zero,List.push_toArray,List.append_toArray,List.nil_append,List.cons_append];gi_wp2_with fail;refine⟨trivial,(callsIn_wide.2 (objects_at (some ⟨a.hb,0,none⟩) _)).mono ?_⟩;rintro e w2 ⟨rfl,rfl⟩;have hm1:=((Mod.refl [] w).alloc (.cells #[.slice none 0 0] 53)).alloc (.cells #[.pointer (some ⟨a.hb,0,none⟩)] 27);have b0:=at_alloc_old (o:=.cells #[.pointer (some ⟨a.hb,0,none⟩)] 27) (at_alloc w (.cells #[.slice none 0 0] 53));have b1:=at_alloc (w.alloc (.cells #[.slice none 0 0] 53)) (.cells #[.pointer (some ⟨a.hb,0,none⟩)] 27);rw[World.size_alloc]at b1;have hz2:((w.alloc (.cells #[.slice none 0 0] 53)).alloc (.cells #[.pointer (some ⟨a.hb,0,none⟩)] 27)).heap.size=w.heap.size+1+1:=by simp
 have hH2:=Comp.keep _ hH hm1 (by simp);have hB:=hm1.below;clear hH
 gi_wp2_with fail
 generalize(w.alloc (.cells #[.slice none 0 0] 53)).alloc (.cells #[.pointer (some ⟨a.hb,0,none⟩)] 27)=W2 at*;generalize hq:w.heap.size=q at*;have b0b:Boxed W2 q 53 (.slice none 0 0):=b0;have hst:=objsC_says 4 (by omega) (q+1) W2.heap.size (Tb.Apart1 q) hc hI hk W2 b1 (Nat.le_refl _) hH2 (fun W W3 k h1 h2 hk v hv=>by
  have e1:W3.cell? ⟨q,0,none⟩=some (.slice none 0 0):=by
   rw[World.cell?_of_block (a:=⟨q,0,none⟩) (h2.block _ (Nat.lt_of_lt_of_le (by show q<W2.heap.size;omega) h1.size)),World.cell?_of_block (a:=⟨q,0,none⟩) (h1.block _ (by show q<W2.heap.size;omega))];exact b0b.cell
  rw[e1]at hv;cases hv;simp[Value.ownBlock]) (fun W W' k hs hm ha v hv=>by
  have e1:=hm.block q (by omega) (by simp);exact ha v (by rw[←hv];exact(World.cell?_of_block (a:=⟨q,0,none⟩) e1).symm))
 refine wpIn_rangeFunc_at rfl (by omega) (gf:=90) (lb:=#[.pointer (some ⟨q+1,0,none⟩)]) rfl trivial (enters_of Tryz.func90 (by kernel_rfl) rfl) hst (RowKit.Below.refl _ _) (fun _=>rfl)
  Tb.keeps_t (Tb.keeps_b (Tb.apart1_put (by omega)))
  (fun(pre:List ObX) W=>ObsJ s q pre W∧RowKit.Below q w W) (fun _ _ _=>False)
  (OwnFrom.and (ObsJ.own s q _) (ownFrom_below (by omega) (by omega)))
  (fun _=>ownFrom_pure _ _) ⟨⟨_,b0b,World.ownsRow_nil _ _ _ _,by simp⟩,hB⟩
  (fun T x r=>(T.setIfInBounds 7 (.agg (obCell x).toArray)).setIfInBounds 4 (.pointer (some ⟨r,0,none⟩)))
  (fun pre x r W=>W.heap[r]? =some (.cells (obCell x).toArray 60 (0,0))∧q<r∧(pre++[x]).map (·.1)<+:Tb.liveP s.T c.n∧ObIn s q W x)
  ?hax ?assign ?body ?done ?stop
 case hax=>
  rintro pre x r _ A B row ⟨h1,h2,h3,h4⟩ hg hr;refine⟨(hg.block r (lt_of h1) (fun e'=>by obtain⟨_,o,ho,hc⟩:=hr r e'.symm;rw[h1]at ho;cases ho;cases hc)).trans h1,h2,h3,h4.grown hg fun r e=> ?_⟩;obtain⟨_,o,ho,hno⟩:=hr r e;refine⟨o,ho,fun cs fr=>⟨fun e=> ?_,fun e=> ?_⟩⟩<;>(rw[e]at hno;cases hno)
 case assign=>
  rintro l pre ⟨⟨ps,eh,eo,et,ef,el⟩,bv,wv⟩ W K ⟨⟨v,hbx,hrow,hin⟩,hB⟩ ⟨hpre,hx⟩ hK;have hKH:=Lib.hid hK;obtain⟨ba,bl,bc,hbv⟩:=row_form hx.1;obtain⟨wa,wl,wc,hwv⟩:=row_form hx.2;simp only at hbv hwv;subst hbv hwv;clear hK hst;unfold encOb obCell;simp only
  gi_wp2_with fail
  have hb:=at_alloc W (.cells #[.int .u64 eh,.int .i64 eo,.int .i64 ef,.int .i64 el,.slice ba bl bc,.slice wa wl wc] 60 (0,0));have hm:=(Mod.refl [] W).alloc (.cells #[.int .u64 eh,.int .i64 eo,.int .i64 ef,.int .i64 el,.slice ba bl bc,.slice wa wl wc] 60 (0,0));have hlt:=lt_of hbx;refine hKH.out W.heap.size _ ((KeepsOthers.alloc W _).from _) ⟨by simp,fun k cs T fr hk ha hck=>⟨at_alloc_old hck,fun u hu=>ha u ?_⟩⟩ ⟨⟨v,hbx.alloc _,hrow.alloc _,fun x hx=>(hin x hx).mod hm⟩,hB.trans ((RowKit.Below.refl q W).alloc (by omega) _)⟩ ⟨hb,by omega,hpre,ObIn.mod (q:=q) ⟨row_base hx.1 (by omega),row_base hx.2 (by omega)⟩ hm⟩;rw[(hbx.alloc _).cell]at hu;rw[hbx.cell];exact hu
 case body=>
  rintro l pre ⟨⟨ps,eh,eo,et,ef,el⟩,bv,wv⟩ r W ⟨⟨v,hbx,hrow,hin⟩,hB⟩ ⟨hr,hqr,hpre,hx⟩ hlt;obtain⟨ba,bl,bc,hbv⟩:=row_form hx.1;obtain⟨wa,wl,wc,hwv⟩:=row_form hx.2;simp only at hbv hwv;subst hbv hwv;obtain⟨i5,hi5,hz0,hz1,hz2⟩:=info_parts info_ob;have hll:=Tb.liveP_len s.T c.n;have hr:W.heap[r]? =some (.cells #[.int .u64 eh,.int .i64 eo,.int .i64 ef,.int .i64 el,.slice ba bl bc,.slice wa wl wc] 60 (0,0)):=hr;have hc1:=hbx.cell;have hc0:=hbx.cell;have hcr:=cells_of hr;have hnwH:=Lib.hid (Tb.cellsE W [.int .u64 eh,.int .i64 eo,.int .i64 ef,.int .i64 el,.slice ba bl bc,.slice wa wl wc] 60 #[.int .u64 eh,.int .i64 eo,.int .i64 ef,.int .i64 el,.slice ba bl bc,.slice wa wl wc] rfl);have hb1:pre.length+1≤maxLen:=by unfold maxLen;omega
  have hb2:(pre.length+1)*80≤140737488355328:=by omega
  have hvH:=Lib.hid hbx;have hBH:=Lib.hid hB;have hrowH:=Lib.hid hrow;have hinH:=Lib.hid hin;have hxH:=Lib.hid hx;have hBs:=hB.size;have hqW:=lt_of hbx;clear hst hbx hB hrow hr hin hx hH2 b0 b1 b0b hm1 hll hlt hpre;simp only[obCell];simp only[List.setIfInBounds_toArray,List.set_cons_succ,List.set_cons_zero];gi_wp2_with (gi_at_builtin;refine wpListIn_append_row _ rfl _ _ 53 rfl q 60 i5 _ 6 80 Tryz.underlying53 hi5 hz0 hz1 hz2 rfl (by decide) v pre.length _ rfl (hrowH.out.alloc _) ⟨W.heap.size,0,none⟩ 1 1 [.int .u64 eh,.int .i64 eo,.int .i64 ef,.int .i64 el,.slice ba bl bc,.slice wa wl wc] rfl rfl hnwH.out (by simp[Value.oneCell']) hb1 hb2 (by simp;omega) ?_;intro v' w1 hown' hgrow hfr;obtain⟨g',cap',rfl⟩:=ownsRow_succ hown';obtain⟨hv1,hv2,hr2,hk2,hbb2⟩:=hvH.out.appended (by decide) hrowH.out (by omega) (by omega) hown' hgrow;have hc1:=hv1.cell;have hf1:=hv1.frozen;have hv1H:=Lib.hid hv1;have hv2H:=Lib.hid hv2;have hr2H:=Lib.hid hr2;have hk2H:=Lib.hid hk2;have hb2H:=Lib.hid hbb2;have hgrowH:=Lib.hid hgrow;have hfrH:=Lib.hid hfr;clear hv1 hv2 hr2 hk2 hbb2 hgrow hfr);have keep:∀ {g:Nat} {cs:Array Value} {T:TypeId} {fr:Nat×Nat},W.heap[g]? =some (.cells cs T fr)→T≠60→T≠53→(w1.setCell ⟨q,0,none⟩ (.slice (some ⟨g',0,none⟩) (pre.length+1) cap')).heap[g]? =some (.cells cs T fr):=fun {g cs T fr} hg h1 h2=>by
   have hlt:=lt_of hg;refine at_setCell_other ((hgrowH.out.block g (by simp;omega) (fun e=>row_apart hrowH.out hg h1 (by rw[Option.mem_toList];exact e.symm))).trans (at_alloc_old hg)) (fun e=> ?_);have e':g=q:=e;have hq2:W.heap[q]? =some (.cells #[v] 53 (0,0)):=hvH.out;rw[e',hq2]at hg;cases hg;exact h2 rfl
  have keepO:∀x,ObIn s q W x→ObIn s q (w1.setCell ⟨q,0,none⟩ (.slice (some ⟨g',0,none⟩) (pre.length+1) cap')) x:=fun x hx=>⟨Tb.row_same hx.1 (fun g cs fr _ hg=>keep hg (by decide) (by decide)),Tb.row_same hx.2 (fun g cs fr _ hg=>keep hg (by decide) (by decide))⟩
  refine⟨hk2H.out.from _,⟨hk2H.out.size,fun k cs T fr hk ha hck=>⟨?_,fun u hu=> ?_⟩⟩,⟨_,hv2H.out,by rw[List.length_append,flat_append,flat_one];exact hr2H.out,fun x hx=> ?_⟩,hBH.out.trans hb2H.out⟩
  ·have hlt:=lt_of hck;have hne:k≠q:=by omega
   have h1:=(hgrowH.out.block k (by simp;omega) (fun e=>ha v hc0 e.symm)).trans (at_alloc_old hck);exact at_setCell_other h1 hne
  ·rw[hv2H.out.cell]at hu;cases hu;intro e;rcases hfrH.out k e with h|h
   ·exact ha v hc0 h
   ·have:=lt_of hck;simp at h;omega
  ·rcases List.mem_append.1 hx with h|h
   ·exact keepO x (hinH.out x h)
   ·rw[List.mem_singleton.1 h];exact keepO _ hxH.out
 case stop=>
  rintro D c pre W _ _ h _;exact h.elim
 case done=>
  rintro D ys W hD hys ⟨⟨v,hbx,hrow,hin⟩,hB⟩ hK;have c1:=hbx.cell;have hBH:=Lib.hid hB;have hKH:=Lib.hid hK;have hrowH:=Lib.hid hrow;have hinH:=Lib.hid hin;have hXH:=Lib.hid hys;have hbxl:=lt_of hbx;clear hst hbx hrow hin hB hK hH2 b0 b1 b0b hm1 hys
  gi_wp2_with fail
  refine⟨by simp,.inl ⟨_,_,rfl,run_takeDeferred hKH.out,?_⟩⟩;have hB4:=hBH.out.trans (belowK_b'' (n:=q) (B:=q) (Nat.le_refl _) W D _ (.deferred none) (by omega) hKH.out rfl rfl);have keep:∀ {g:Nat} {cs:Array Value} {T:TypeId} {fr:Nat×Nat},W.heap[g]? =some (.cells cs T fr)→(W.putObj D (.deferred none)).heap[g]? =some (.cells cs T fr):=fun {g cs T fr} hg=>(World.putObj_heap_other (by intro e;subst e;rw[hKH.out]at hg;cases hg)).trans hg
  subst hq;refine⟨v,?_,ys,v,rfl,hXH.out,Tb.row_same hrowH.out (fun g cs fr _ hg=>keep hg),fun x hx=>⟨Tb.row_same (hinH.out x hx).1 (fun g cs fr _ hg=>keep hg),Tb.row_same (hinH.out x hx).2 (fun g cs fr _ hg=>keep hg)⟩,Mod.of_below hB4⟩;simp[results,Tryz.results14,asAddr,go_sem]
structure Cf where
 n:Int
 size:Int
 first:Int
 cap:Int
 b:Int
 o:Int
 r:Int
 frames:Int
 stack:Int
def cfA (c:Cf):Array Value:=#[.int .i64 c.n,.int .i64 c.size,.int .u32 c.first,.int .i64 c.cap,.int .i64 c.b,.int .i64 c.o,.int .i64 c.r,.int .i64 c.frames,.int .i64 c.stack]
def cfOk (c:Cf):Prop:=(0≤c.n∧c.n≤4096)∧(0≤c.size∧c.size≤1048576)∧c.first≠0∧(0≤c.cap∧c.cap≤65536)∧0≤c.b∧0≤c.o∧0≤c.r∧(1≤c.frames∧c.frames≤256)∧(0≤c.stack∧c.stack≤16384)
instance (c:Cf):Decidable (cfOk c):=by unfold cfOk;infer_instance
def cfE (c:Cf):Int:=if cfOk c then 0 else 1
theorem cfE_ok {c:Cf} (h:cfOk c):cfE c=0:=if_pos h
theorem cfE_bad {c:Cf} (h:¬cfOk c):cfE c=1:=if_neg h
theorem inr_yes {n l m:Int} (h:l≤n∧n≤m) (w:World):Calls Tryz.prog 33 #[.int .i64 n,.int .i64 l,.int .i64 m] w fun e w'=>e=.returned (.bool true)∧Mod [] w w':=by
 have:=inrange_ok n l m w
 rwa [show(decide (l≤n)&&decide (n≤m))=true by simp[h.1,h.2]]at this
theorem inr_no {n l m:Int} (h:¬(l≤n∧n≤m)) (w:World):Calls Tryz.prog 33 #[.int .i64 n,.int .i64 l,.int .i64 m] w fun e w'=>e=.returned (.bool false)∧Mod [] w w':=by
 have:=inrange_ok n l m w
 rwa [show(decide (l≤n)&&decide (n≤m))=false by rw[Bool.and_eq_false_iff,decide_eq_false_iff_not,decide_eq_false_iff_not];omega]at this
theorem check_ok (c:Cf) (w:World):Calls Tryz.prog 19 #[.agg (cfA c)] w fun e w'=>e=.returned (.int .i64 (cfE c))∧Mod [] w w':=by
 obtain⟨n,size,first,cap,b,o,r,frames,stack⟩:=c;unfold cfA;simp only;have hS:=(((Scene.empty w).alloc (.cells #[.int .i64 n,.int .i64 size,.int .u32 first,.int .i64 cap,.int .i64 b,.int .i64 o,.int .i64 r,.int .i64 frames,.int .i64 stack] 35)).alloc (.cells #[.int .i64 b,.int .i64 o,.int .i64 r] 33));rw[World.size_alloc]at hS;have hS:=Lib.hid hS;have c1:=trivial;have c2:=trivial;by_cases hf:first=0
 ·subst hf;have hf:=Lib.hid trivial;go_enter Tryz.func19,Tryz.ntmps19;go_wp2_with fail;by_cases hn:0≤n∧n≤4096
  rotate_left
  ·refine(inr_no hn _).mono ?_;rintro e w1 ⟨rfl,hm⟩;have hm:=Lib.hid (hS.out.then hm);clear c1 c2;go_wp2_with fail;go_ret;exact⟨by rw[cfE_bad (fun h=>hn (by unfold cfOk at h;simp only at h;omega))];rfl,hm.out.mod⟩
  refine(inr_yes hn _).mono ?_;rintro e w1 ⟨rfl,hm⟩;clear c1 c2;have hS:=Lib.hid (hS.out.then hm);have c1:=cells_of (hS.out.block 0 rfl);have c2:=cells_of (hS.out.block 1 rfl);clear hm;go_wp2_with fail;by_cases hs:0≤size∧size≤1048576
  rotate_left
  ·refine(inr_no hs _).mono ?_;rintro e w1 ⟨rfl,hm⟩;have hm:=Lib.hid (hS.out.then hm);clear c1 c2;go_wp2_with fail;go_ret;exact⟨by rw[cfE_bad (fun h=>hs (by unfold cfOk at h;simp only at h;omega))];rfl,hm.out.mod⟩
  refine(inr_yes hs _).mono ?_;rintro e w1 ⟨rfl,hm⟩;clear c1 c2;have hS:=Lib.hid (hS.out.then hm);have c1:=cells_of (hS.out.block 0 rfl);have c2:=cells_of (hS.out.block 1 rfl);clear hm;go_wp2_with fail;go_ret;have hf1:=hf.out;exact⟨by rw[cfE_bad (fun h=>by unfold cfOk at h;simp only at h;omega)];rfl,hS.out.mod⟩
 have e0:(first==0)=false:=by simp[hf]
 have hf:=Lib.hid hf;by_cases hb:b<0
 ·have e1:decide (b<0)=true:=by simp[hb]
  go_enter Tryz.func19,Tryz.ntmps19;go_wp2_with fail;by_cases hn:0≤n∧n≤4096
  rotate_left
  ·refine(inr_no hn _).mono ?_;rintro e w1 ⟨rfl,hm⟩;have hm:=Lib.hid (hS.out.then hm);clear c1 c2;go_wp2_with fail;go_ret;exact⟨by rw[cfE_bad (fun h=>hn (by unfold cfOk at h;simp only at h;omega))];rfl,hm.out.mod⟩
  refine(inr_yes hn _).mono ?_;rintro e w1 ⟨rfl,hm⟩;clear c1 c2;have hS:=Lib.hid (hS.out.then hm);have c1:=cells_of (hS.out.block 0 rfl);have c2:=cells_of (hS.out.block 1 rfl);clear hm;go_wp2_with fail;by_cases hs:0≤size∧size≤1048576
  rotate_left
  ·refine(inr_no hs _).mono ?_;rintro e w1 ⟨rfl,hm⟩;have hm:=Lib.hid (hS.out.then hm);clear c1 c2;go_wp2_with fail;go_ret;exact⟨by rw[cfE_bad (fun h=>hs (by unfold cfOk at h;simp only at h;omega))];rfl,hm.out.mod⟩
  refine(inr_yes hs _).mono ?_;rintro e w1 ⟨rfl,hm⟩;clear c1 c2;have hS:=Lib.hid (hS.out.then hm);have c1:=cells_of (hS.out.block 0 rfl);have c2:=cells_of (hS.out.block 1 rfl);clear hm;go_wp2_with fail;by_cases hc:0≤cap∧cap≤65536
  rotate_left
  ·refine(inr_no hc _).mono ?_;rintro e w1 ⟨rfl,hm⟩;have hm:=Lib.hid (hS.out.then hm);clear c1 c2;go_wp2_with fail;go_ret;exact⟨by rw[cfE_bad (fun h=>hc (by unfold cfOk at h;simp only at h;omega))];rfl,hm.out.mod⟩
  refine(inr_yes hc _).mono ?_;rintro e w1 ⟨rfl,hm⟩;clear c1 c2;have hS:=Lib.hid (hS.out.then hm);have c1:=cells_of (hS.out.block 0 rfl);have c2:=cells_of (hS.out.block 1 rfl);clear hm;go_wp2_with fail;go_ret;have hf1:=hf.out;exact⟨by rw[cfE_bad (fun h=>by unfold cfOk at h;simp only at h;omega)];rfl,hS.out.mod⟩
 have e1:decide (b<0)=false:=by simp[hb]
 by_cases ho:o<0
 ·have e2:decide (o<0)=true:=by simp[ho]
  go_enter Tryz.func19,Tryz.ntmps19;go_wp2_with fail;by_cases hn:0≤n∧n≤4096
  rotate_left
  ·refine(inr_no hn _).mono ?_;rintro e w1 ⟨rfl,hm⟩;have hm:=Lib.hid (hS.out.then hm);clear c1 c2;go_wp2_with fail;go_ret;exact⟨by rw[cfE_bad (fun h=>hn (by unfold cfOk at h;simp only at h;omega))];rfl,hm.out.mod⟩
  refine(inr_yes hn _).mono ?_;rintro e w1 ⟨rfl,hm⟩;clear c1 c2;have hS:=Lib.hid (hS.out.then hm);have c1:=cells_of (hS.out.block 0 rfl);have c2:=cells_of (hS.out.block 1 rfl);clear hm;go_wp2_with fail;by_cases hs:0≤size∧size≤1048576
  rotate_left
  ·refine(inr_no hs _).mono ?_;rintro e w1 ⟨rfl,hm⟩;have hm:=Lib.hid (hS.out.then hm);clear c1 c2;go_wp2_with fail;go_ret;exact⟨by rw[cfE_bad (fun h=>hs (by unfold cfOk at h;simp only at h;omega))];rfl,hm.out.mod⟩
  refine(inr_yes hs _).mono ?_;rintro e w1 ⟨rfl,hm⟩;clear c1 c2;have hS:=Lib.hid (hS.out.then hm);have c1:=cells_of (hS.out.block 0 rfl);have c2:=cells_of (hS.out.block 1 rfl);clear hm;go_wp2_with fail;by_cases hc:0≤cap∧cap≤65536
  rotate_left
  ·refine(inr_no hc _).mono ?_;rintro e w1 ⟨rfl,hm⟩;have hm:=Lib.hid (hS.out.then hm);clear c1 c2;go_wp2_with fail;go_ret;exact⟨by rw[cfE_bad (fun h=>hc (by unfold cfOk at h;simp only at h;omega))];rfl,hm.out.mod⟩
  refine(inr_yes hc _).mono ?_;rintro e w1 ⟨rfl,hm⟩;clear c1 c2;have hS:=Lib.hid (hS.out.then hm);have c1:=cells_of (hS.out.block 0 rfl);have c2:=cells_of (hS.out.block 1 rfl);clear hm;go_wp2_with fail;go_ret;have hf1:=hf.out;exact⟨by rw[cfE_bad (fun h=>by unfold cfOk at h;simp only at h;omega)];rfl,hS.out.mod⟩
 have e2:decide (o<0)=false:=by simp[ho]
 by_cases hr:r<0
 ·have e3:decide (r<0)=true:=by simp[hr]
  go_enter Tryz.func19,Tryz.ntmps19;go_wp2_with fail;by_cases hn:0≤n∧n≤4096
  rotate_left
  ·refine(inr_no hn _).mono ?_;rintro e w1 ⟨rfl,hm⟩;have hm:=Lib.hid (hS.out.then hm);clear c1 c2;go_wp2_with fail;go_ret;exact⟨by rw[cfE_bad (fun h=>hn (by unfold cfOk at h;simp only at h;omega))];rfl,hm.out.mod⟩
  refine(inr_yes hn _).mono ?_;rintro e w1 ⟨rfl,hm⟩;clear c1 c2;have hS:=Lib.hid (hS.out.then hm);have c1:=cells_of (hS.out.block 0 rfl);have c2:=cells_of (hS.out.block 1 rfl);clear hm;go_wp2_with fail;by_cases hs:0≤size∧size≤1048576
  rotate_left
  ·refine(inr_no hs _).mono ?_;rintro e w1 ⟨rfl,hm⟩;have hm:=Lib.hid (hS.out.then hm);clear c1 c2;go_wp2_with fail;go_ret;exact⟨by rw[cfE_bad (fun h=>hs (by unfold cfOk at h;simp only at h;omega))];rfl,hm.out.mod⟩
  refine(inr_yes hs _).mono ?_;rintro e w1 ⟨rfl,hm⟩;clear c1 c2;have hS:=Lib.hid (hS.out.then hm);have c1:=cells_of (hS.out.block 0 rfl);have c2:=cells_of (hS.out.block 1 rfl);clear hm;go_wp2_with fail;by_cases hc:0≤cap∧cap≤65536
  rotate_left
  ·refine(inr_no hc _).mono ?_;rintro e w1 ⟨rfl,hm⟩;have hm:=Lib.hid (hS.out.then hm);clear c1 c2;go_wp2_with fail;go_ret;exact⟨by rw[cfE_bad (fun h=>hc (by unfold cfOk at h;simp only at h;omega))];rfl,hm.out.mod⟩
  refine(inr_yes hc _).mono ?_;rintro e w1 ⟨rfl,hm⟩;clear c1 c2;have hS:=Lib.hid (hS.out.then hm);have c1:=cells_of (hS.out.block 0 rfl);have c2:=cells_of (hS.out.block 1 rfl);clear hm;go_wp2_with fail;go_ret;have hf1:=hf.out;exact⟨by rw[cfE_bad (fun h=>by unfold cfOk at h;simp only at h;omega)];rfl,hS.out.mod⟩
 have e3:decide (r<0)=false:=by simp[hr]
 go_enter Tryz.func19,Tryz.ntmps19;go_wp2_with fail;by_cases hn:0≤n∧n≤4096
 rotate_left
 ·refine(inr_no hn _).mono ?_;rintro e w1 ⟨rfl,hm⟩;have hm:=Lib.hid (hS.out.then hm);clear c1 c2;go_wp2_with fail;go_ret;exact⟨by rw[cfE_bad (fun h=>hn (by unfold cfOk at h;simp only at h;omega))];rfl,hm.out.mod⟩
 refine(inr_yes hn _).mono ?_;rintro e w1 ⟨rfl,hm⟩;clear c1 c2;have hS:=Lib.hid (hS.out.then hm);have c1:=cells_of (hS.out.block 0 rfl);have c2:=cells_of (hS.out.block 1 rfl);clear hm;go_wp2_with fail;by_cases hs:0≤size∧size≤1048576
 rotate_left
 ·refine(inr_no hs _).mono ?_;rintro e w1 ⟨rfl,hm⟩;have hm:=Lib.hid (hS.out.then hm);clear c1 c2;go_wp2_with fail;go_ret;exact⟨by rw[cfE_bad (fun h=>hs (by unfold cfOk at h;simp only at h;omega))];rfl,hm.out.mod⟩
 refine(inr_yes hs _).mono ?_;rintro e w1 ⟨rfl,hm⟩;clear c1 c2;have hS:=Lib.hid (hS.out.then hm);have c1:=cells_of (hS.out.block 0 rfl);have c2:=cells_of (hS.out.block 1 rfl);clear hm;go_wp2_with fail;by_cases hc:0≤cap∧cap≤65536
 rotate_left
 ·refine(inr_no hc _).mono ?_;rintro e w1 ⟨rfl,hm⟩;have hm:=Lib.hid (hS.out.then hm);clear c1 c2;go_wp2_with fail;go_ret;exact⟨by rw[cfE_bad (fun h=>hc (by unfold cfOk at h;simp only at h;omega))];rfl,hm.out.mod⟩
 refine(inr_yes hc _).mono ?_;rintro e w1 ⟨rfl,hm⟩;clear c1 c2;have hS:=Lib.hid (hS.out.then hm);have c1:=cells_of (hS.out.block 0 rfl);have c2:=cells_of (hS.out.block 1 rfl);clear hm;go_wp2_with fail;by_cases hfr:1≤frames∧frames≤256
 rotate_left
 ·refine(inr_no hfr _).mono ?_;rintro e w1 ⟨rfl,hm⟩;have hm:=Lib.hid (hS.out.then hm);clear c1 c2;go_wp2_with fail;go_ret;exact⟨by rw[cfE_bad (fun h=>hfr (by unfold cfOk at h;simp only at h;omega))];rfl,hm.out.mod⟩
 refine(inr_yes hfr _).mono ?_;rintro e w1 ⟨rfl,hm⟩;clear c1 c2;have hS:=Lib.hid (hS.out.then hm);have c1:=cells_of (hS.out.block 0 rfl);have c2:=cells_of (hS.out.block 1 rfl);clear hm;go_wp2_with fail;by_cases hk:0≤stack∧stack≤16384
 rotate_left
 ·refine(inr_no hk _).mono ?_;rintro e w1 ⟨rfl,hm⟩;have hm:=Lib.hid (hS.out.then hm);clear c1 c2;go_wp2_with fail;go_ret;exact⟨by rw[cfE_bad (fun h=>hk (by unfold cfOk at h;simp only at h;omega))];rfl,hm.out.mod⟩
 refine(inr_yes hk _).mono ?_;rintro e w1 ⟨rfl,hm⟩;clear c1 c2;have hS:=Lib.hid (hS.out.then hm);have c1:=cells_of (hS.out.block 0 rfl);have c2:=cells_of (hS.out.block 1 rfl);clear hm;go_wp2_with fail;go_ret;have hf1:=hf.out;exact⟨by rw[cfE_ok (by unfold cfOk;simp only;omega)];rfl,hS.out.mod⟩
end Go.Proofs.YteidpgdfocjdbaaGreat
