/- Joined contracts. No conditions. -/
import Derived.Test.YtgfdeiijblakfaaGreatCS
import Derived.Test.YtgfdeiijblakfaaGreatC03
import Derived.Test.YtgfdeiijblakfaaGreatC15
import Derived.Test.YtgfdeiijblakfaaGreatC21
import Derived.Test.YtgfdeiijblakfaaGreatC30
import Derived.Test.YtgfdeiijblakfaaGreatC31
set_option maxHeartbeats 4000000
set_option maxRecDepth 20000
namespace Go.Proofs.YtgfdeiijblakfaaGreat
open Go Go.RowKit Go.Stg
open Ty (FieldsAt)
theorem FieldsAt.laid {w:World} {v:Value} {fs:List Ty.Fld} {p:Nat} {x:Value} {m:Option Addr} {n k:Nat} (h:FieldsAt w v fs) (hp:w.heap[p]? =some (.cells #[x,.slice m n k] 38 (0,0))) (u0 u1:Value):
  FieldsAt ((w.setCell ⟨p,0,none⟩ u0).setCell ⟨p,1,none⟩ u1) v fs:=by
 rcases h with h|⟨sb,so,cap,rfl,h2,h3,h4⟩
 ·exact .inl h
 ·refine .inr ⟨sb,so,cap,rfl,by simpa using h2,h3,fun i hi=> ?_⟩;by_cases e:sb=p
  ·exfalso;subst e;obtain⟨q1,q2⟩:=h4 i hi;rw[cells_of hp]at q1 q2;obtain⟨z,hz⟩:∃z,so+i*2=z:=⟨_,rfl⟩;rw[hz]at q1 q2
   match z,q1,q2 with
   |0,q1,q2=>simp at q2
   |1,q1,q2=>simp at q1
   |z+2,q1,q2=>simp at q1
  ·have hm:=((Mod.refl [p] w).setCell (p:=⟨p,0,none⟩) (.inl (by simp)) u0).setCell (p:=⟨p,1,none⟩) (.inl (by simp)) u1;rw[Ty.cell_mod hm h2 (by simpa using e),Ty.cell_mod hm h2 (by simpa using e)];exact h4 i hi
def Typed (W:World) (p:Nat) (t:Ty.Ty) (v:Value) (w:World):Prop:=Mod [] W w∧W.heap.size≤p∧w.heap[p]? =some (.cells #[.int .i64 t.1,v] 38 (0,0))∧FieldsAt w v t.2
theorem Typed.set {W w:World} {p:Nat} {t:Ty.Ty} {v:Value} (hm:Mod [] W w) (hp:W.heap.size≤p) (hb:w.heap[p]? =some (.cells #[.int .i64 0,.slice none 0 0] 38 (0,0))) (hf:FieldsAt w v t.2):
  Typed W p t v ((w.setCell ⟨p,0,none⟩ (.int .i64 t.1)).setCell ⟨p,1,none⟩ v):=
 ⟨(hm.setCell (p:=⟨p,0,none⟩) (.inr hp) _).setCell (p:=⟨p,1,none⟩) (.inr hp) _,hp,by simpa using at_setCell (o:=1) (v:=v) (at_setCell (o:=0) (v:=.int .i64 t.1) hb),FieldsAt.laid hf hb _ _⟩
theorem typeof_ok {a:HA} {R:List Ty.Ty} {w:World} {f:List Nat} (hb:w.heap[a.hb]? =some (hpB a)) (hr:(Ty.regC 87 a.rt R).on w f) (x:Tb.Ent):
  Calls Tryz.prog 134 #[.pointer (some ⟨a.hb,0,none⟩),Tb.entV x] w fun e w'=>∃v,e=.returned (.agg #[.int .i64 (Ty.lookT R x.tag).1,v])∧FieldsAt w' v (Ty.lookT R x.tag).2∧Mod [] w w':=by
 obtain⟨h,owner,tag,off,len⟩:=x;simp only[Tb.entV];have hm0:=Lib.hid (((Mod.refl [] w).alloc (.cells #[.int .u64 h,.int .i64 owner,.int .i64 tag,.int .i64 off,.int .i64 len] 141)).alloc (.cells #[.int .i64 0,.slice none 0 0] 38));have hlk0:=Lib.hid fun w' (hm:Mod [] w w')=>Ty.lookup_ok (Comp.keep (Ty.regC 87 a.rt R) hr hm (by simp)) tag
 have hb0:=Lib.hid (hm0.out.at hb (by simp));have hx0:=Lib.hid (at_alloc_old (o:=.cells #[.int .i64 0,.slice none 0 0] 38) (at_alloc w (.cells #[.int .u64 h,.int .i64 owner,.int .i64 tag,.int .i64 off,.int .i64 len] 141)));have hy0:=at_alloc (w.alloc (.cells #[.int .u64 h,.int .i64 owner,.int .i64 tag,.int .i64 off,.int .i64 len] 141)) (.cells #[.int .i64 0,.slice none 0 0] 38);rw[show(w.alloc (.cells #[.int .u64 h,.int .i64 owner,.int .i64 tag,.int .i64 off,.int .i64 len] 141)).heap.size=w.heap.size+1 by simp]at hy0;have hy0:=Lib.hid hy0;clear hb hr;go_enter Tryz.func134,Tryz.ntmps134;go_wp2_with fail;generalize hW0:(w.alloc (.cells #[.int .u64 h,.int .i64 owner,.int .i64 tag,.int .i64 off,.int .i64 len] 141)).alloc (.cells #[.int .i64 0,.slice none 0 0] 38)=W0 at*;have hlk:=Lib.hid fun w' (hm:Mod [] W0 w')=>hlk0.out w' (hm0.out.nil_then hm)
 have k1:=GW.cells (S:=[]) hb0.out (by simp);have k2:=GW.cells (S:=[]) hx0.out (by simp);refine wp_region_float 10 _ (fun w'=>∃x:GW [] W0,w'=x.1) (fun w'=>Mod [] W0 w') (by kernel_rfl) rfl rfl (by kernel_rfl) (by kernel_rfl) (fun _ h=>InGW.of h) (Mod.refl _ _).drew ?_;dsimp only[List.getElem_toArray,List.getElem_cons_succ,List.getElem_cons_zero];refine float_quiet 6 (by kernel_rfl) (by decide) ?_;simp only[tA,tB,tC,tD,Nat.reduceAdd];(repeat go_big_quiet_step (fail));refine wpQuiet_nil ?_;refine float_eff (by decide) rfl rfl ?A rfl (by simp) ?B
 case A=>
  refine Tb.eff_call_any 76 #[.pointer (some ⟨a.rt,0,none⟩),.int .i64 tag] (fun v=>∃m n k,v=.tuple #[.agg #[.int .i64 (Ty.lookT R tag).1,.slice m n k],.int .i64 (Ty.lookE R tag)]) (fun v w'=>Mod [] W0 w'∧∃u,v=.tuple #[.agg #[.int .i64 (Ty.lookT R tag).1,u],.int .i64 (Ty.lookE R tag)]∧FieldsAt w' u (Ty.lookT R tag).2) rfl Tryz.call76 rfl ⟨_,none,0,0,rfl⟩ (fun w' hw=> ?_) (fun v w' h=>InGW.of h.1) (fun v hv=> ?_)
  ·refine(hlk.out w' hw).mono ?_;rintro e w'' ⟨u,rfl,h1,h2⟩;obtain⟨um,un,uc,rfl⟩:=Ty.FieldsAt.slice h1;exact⟨_,rfl,⟨_,_,_,rfl⟩,hw.nil_then h2,_,rfl,h1⟩
  obtain⟨vm,vn,vc,rfl⟩:=hv;simp only[Act.put,sA,sB,sC];refine float_quiet 3 (by kernel_rfl) (by decide) ?_;simp only[tA,tB,tC,tD,Nat.reduceAdd];(repeat go_big_quiet_step (fail));refine wpQuiet_nil ?_;refine float_here ?_;refine stage_alloc (fun p=>.pointer (some ⟨p,0,none⟩)) (.cells #[.int .i64 0,.slice none 0 0] 38 (0,0)) (fun p w'=>Mod [] W0 w'∧W0.heap.size≤p∧w'.heap[p]? =some (.cells #[.int .i64 0,.slice none 0 0] 38 (0,0))∧FieldsAt w' (.slice vm vn vc) (Ty.lookT R tag).2) (by intro s s' h;simpa using h) rfl rfl (fun w' hw=> ?_) (fun w' hw=> ?_) (fun p w' h=>InGW.of h.1) (fun p=> ?_)
  ·kernel_rfl
  ·obtain⟨h1,u,hu,h2⟩:=hw;obtain rfl:u=.slice vm vn vc:=by simpa using hu.symm
   exact⟨h1.alloc _,h1.size,at_alloc _ _,h2.mod ((Mod.refl [] _).alloc _)⟩
  simp only[Act.put,sA,sB,sC];refine stage_set (p:=⟨p,0,none⟩) (u:=.agg #[.int .i64 (Ty.lookT R tag).1,.slice vm vn vc]) (fun w'=>(w'.setCell ⟨p,0,none⟩ (.int .i64 (Ty.lookT R tag).1)).setCell ⟨p,1,none⟩ (.slice vm vn vc)) (Typed W0 p (Ty.lookT R tag) (.slice vm vn vc)) rfl rfl rfl rfl rfl (fun w' hw=> ?_) (fun w' hw=>Typed.set hw.1 hw.2.1 hw.2.2.1 hw.2.2.2) (fun w' h=>InGW.of h.1) ?_
  ·have d1:=cells_of hw.2.2.1;have d2:=frozen_of hw.2.2.1;clear k1 k2 hw;go_simp
  refine stage_quiet 1 (by kernel_rfl) ?_;simp only[tA,tB,tC,tD];(repeat go_big_quiet_step (fail));refine wpQuiet_nil ?_;refine stage_nil fun w1 hw1=> ?_
  obtain⟨hm1,hp,hbp,hf⟩:=hw1;have hm1H:=Lib.hid (hm0.out.nil_then hm1);have hp1:=Lib.hid hbp;have hf1:=Lib.hid hf;have hy1:=Lib.hid (hm1.at hy0.out (by simp));have c1:=cells_of hbp;have c2:=cells_of (hm1.at hy0.out (by simp));have f2:=frozen_of (hm1.at hy0.out (by simp));clear k1 k2 hm1 hbp hf hp hlk hlk0 hb0 hx0 hy0 hm0;go_wp2_with fail;have u1:=at_setCell (o:=1) (v:=.slice vm vn vc) (at_setCell (o:=0) (v:=.int .i64 (Ty.lookT R tag).1) hy1.out);refine bodyPost_ret (results_cell_row Tryz.results134 _ _ (w.heap.size+1) 38 _ _ _ rfl u1 Tryz.underlying38 rfl (by kernel_rfl)) rfl ?_;refine⟨.slice vm vn vc,rfl,FieldsAt.laid hf1.out hy1.out _ _,?_⟩;exact(hm1H.out.setCell (p:=⟨w.heap.size+1,0,none⟩) (.inr (by simp)) _).setCell (p:=⟨w.heap.size+1,1,none⟩) (.inr (by simp)) _
 case B=>
  simp only[Nat.reduceSub,List.eraseIdx_cons_succ,List.eraseIdx_cons_zero];refine stage_alloc (fun p=>.pointer (some ⟨p,0,none⟩)) (.cells #[.int .i64 0,.slice none 0 0] 38 (0,0)) (fun p w'=>Mod [] W0 w'∧W0.heap.size≤p∧w'.heap[p]? =some (.cells #[.int .i64 0,.slice none 0 0] 38 (0,0))) (by intro s s' h;simpa using h) rfl rfl (fun w' hw=> ?_) (fun w' hw=>⟨hw.alloc _,hw.size,at_alloc _ _⟩) (fun p w' h=>InGW.of h.1) (fun p=> ?_)
  ·kernel_rfl
  simp only[Act.put,sA,sB,sC];refine stage_call_any 76 #[.pointer (some ⟨a.rt,0,none⟩),.int .i64 tag] (fun v=>∃m n k,v=.tuple #[.agg #[.int .i64 (Ty.lookT R tag).1,.slice m n k],.int .i64 (Ty.lookE R tag)]) (fun v w'=>Mod [] W0 w'∧W0.heap.size≤p∧w'.heap[p]? =some (.cells #[.int .i64 0,.slice none 0 0] 38 (0,0))∧∃u,v=.tuple #[.agg #[.int .i64 (Ty.lookT R tag).1,u],.int .i64 (Ty.lookE R tag)]∧FieldsAt w' u (Ty.lookT R tag).2) rfl Tryz.call76 rfl rfl ⟨_,none,0,0,rfl⟩ (fun w' hw=> ?_) (fun v w' h=>InGW.of h.1) (fun v hv=> ?_)
  ·refine(hlk.out w' hw.1).mono ?_;rintro e w'' ⟨u,rfl,h1,h2⟩;obtain⟨um,un,uc,rfl⟩:=Ty.FieldsAt.slice h1;exact⟨_,rfl,⟨_,_,_,rfl⟩,hw.1.nil_then h2,hw.2.1,h2.at hw.2.2 (by simp),_,rfl,h1⟩
  obtain⟨vm,vn,vc,rfl⟩:=hv;simp only[Act.put,sA,sB,sC];refine stage_quiet 3 (by kernel_rfl) ?_;simp only[tA,tB,tC,tD];(repeat go_big_quiet_step (fail));refine wpQuiet_nil ?_;refine stage_imp (fun w'=>Mod [] W0 w'∧W0.heap.size≤p∧w'.heap[p]? =some (.cells #[.int .i64 0,.slice none 0 0] 38 (0,0))∧FieldsAt w' (.slice vm vn vc) (Ty.lookT R tag).2) (fun w' hw=> ?_) ?_
  ·obtain⟨h1,h2,h3,u,hu,h4⟩:=hw;obtain rfl:u=.slice vm vn vc:=by simpa using hu.symm
   exact⟨h1,h2,h3,h4⟩
  refine stage_set (p:=⟨p,0,none⟩) (u:=.agg #[.int .i64 (Ty.lookT R tag).1,.slice vm vn vc]) (fun w'=>(w'.setCell ⟨p,0,none⟩ (.int .i64 (Ty.lookT R tag).1)).setCell ⟨p,1,none⟩ (.slice vm vn vc)) (Typed W0 p (Ty.lookT R tag) (.slice vm vn vc)) rfl rfl rfl rfl rfl (fun w' hw=> ?_) (fun w' hw=>Typed.set hw.1 hw.2.1 hw.2.2.1 hw.2.2.2) (fun w' h=>InGW.of h.1) ?_
  ·have d1:=cells_of hw.2.2.1;have d2:=frozen_of hw.2.2.1;clear k1 k2 hw;go_simp
  refine stage_quiet 1 (by kernel_rfl) ?_;simp only[tA,tB,tC,tD];(repeat go_big_quiet_step (fail));refine wpQuiet_nil ?_;refine stage_nil fun w1 hw1=> ?_
  obtain⟨hm1,hp,hbp,hf⟩:=hw1;have hm1H:=Lib.hid (hm0.out.nil_then hm1);have hp1:=Lib.hid hbp;have hf1:=Lib.hid hf;have hy1:=Lib.hid (hm1.at hy0.out (by simp));have c1:=cells_of hbp;have c2:=cells_of (hm1.at hy0.out (by simp));have f2:=frozen_of (hm1.at hy0.out (by simp));clear k1 k2 hm1 hbp hf hp hlk hlk0 hb0 hx0 hy0 hm0;go_wp2_with fail;have u1:=at_setCell (o:=1) (v:=.slice vm vn vc) (at_setCell (o:=0) (v:=.int .i64 (Ty.lookT R tag).1) hy1.out);refine bodyPost_ret (results_cell_row Tryz.results134 _ _ (w.heap.size+1) 38 _ _ _ rfl u1 Tryz.underlying38 rfl (by kernel_rfl)) rfl ?_;refine⟨.slice vm vn vc,rfl,FieldsAt.laid hf1.out hy1.out _ _,?_⟩;exact(hm1H.out.setCell (p:=⟨w.heap.size+1,0,none⟩) (.inr (by simp)) _).setCell (p:=⟨w.heap.size+1,1,none⟩) (.inr (by simp)) _
end Go.Proofs.YtgfdeiijblakfaaGreat
namespace Go.Proofs.YtgfdeiijblakfaaGreat
open Go Go.RowKit Go.Stg
open Ty (FieldsAt)
theorem sizeof_ok {a:HA} {R:List Ty.Ty} {w:World} {f:List Nat} (hb:w.heap[a.hb]? =some (hpB a)) (hr:(Ty.regC 87 a.rt R).on w f) (x:Tb.Ent) (ht:Ty.TyOk (Ty.lookT R x.tag)):
  Calls Tryz.prog 109 #[.pointer (some ⟨a.hb,0,none⟩),Tb.entV x] w fun e w'=>e=.returned (.int .i64 (Ty.sizeT (Ty.lookT R x.tag).1 (Ty.lookT R x.tag).2))∧Mod [] w w':=by
 have hto:=Lib.hid fun w' (hm:Mod [] w w')=>typeof_ok (hm.at hb (by simp)) (Comp.keep (Ty.regC 87 a.rt R) hr hm (by simp)) x
 obtain⟨h,owner,tag,off,len⟩:=x;simp only[Tb.entV]at hto⊢;have hm0:=Lib.hid ((Mod.refl [] w).alloc (.cells #[.int .u64 h,.int .i64 owner,.int .i64 tag,.int .i64 off,.int .i64 len] 141));simp only at hto ht⊢;generalize Ty.lookT R tag=T at*;obtain⟨tl,tf⟩:=T;have hbd:=ht.bounds;have he:Ty.errT tl tf=0:=ht;simp only at hto hbd⊢;have hsz:=Lib.hid fun v w' (hv:FieldsAt w' v tf)=>(show Calls Tryz.prog _ _ _ (fun e w''=>e=.returned (.tuple #[.int .i64 (Ty.sizeT tl tf),.int .i64 0])∧Mod [] w' w'') by
  have:=Ty.sizeF_ok tl v tf w' hv (by omega) (by omega);unfold Ty.sizeV at this;rw[if_pos he,he]at this;exact this)
 clear hb hr ht he;go_enter Tryz.func109,Tryz.ntmps109;go_wp2_with fail;refine(hto.out _ hm0.out).mono ?_;rintro e w1 ⟨v,rfl,hf,hm1⟩;have hm1H:=Lib.hid (hm0.out.nil_then hm1);have hfH:=Lib.hid hf;clear hm1 hf hto hm0;go_wp2_with fail;refine(hsz.out v _ hfH.out).mono ?_;rintro e w2 ⟨rfl,hm2⟩;have hm2H:=Lib.hid (hm1H.out.nil_then hm2);clear hm2 hsz;go_wp2_with fail;go_ret;exact⟨rfl,hm2H.out⟩
theorem hwithin_ok {a:HA} {R:List Ty.Ty} {w:World} {f:List Nat} (hb:w.heap[a.hb]? =some (hpB a)) (hr:(Ty.regC 87 a.rt R).on w f) (x:Tb.Ent) (ht:Ty.TyOk (Ty.lookT R x.tag)) (off n:Int) (hn:0≤n):
  Calls Tryz.prog 61 #[.pointer (some ⟨a.hb,0,none⟩),Tb.entV x,.int .i64 off,.int .i64 n] w fun e w'=>e=.returned (.bool (withinN off n (Ty.sizeT (Ty.lookT R x.tag).1 (Ty.lookT R x.tag).2)))∧Mod [] w w':=by
 have hso:=Lib.hid fun w' (hm:Mod [] w w')=>sizeof_ok (hm.at hb (by simp)) (Comp.keep (Ty.regC 87 a.rt R) hr hm (by simp)) x ht
 obtain⟨hs0,hsz⟩:=size_pos ht;obtain⟨h,owner,tag,xo,len⟩:=x;simp only[Tb.entV]at hso hsz hs0⊢;generalize Ty.sizeT (Ty.lookT R tag).1 (Ty.lookT R tag).2=size at*;have hm0:=Lib.hid ((Mod.refl [] w).alloc (.cells #[.int .u64 h,.int .i64 owner,.int .i64 tag,.int .i64 xo,.int .i64 len] 141));unfold withinN;clear hb hr ht;by_cases h1:0≤off
 ·have e1:decide (off≥0)=true:=by simp[h1]
  have e1':decide (0≤off)=true:=by simp[h1]
  by_cases h2:n≤size
  ·have e2:decide (n≤size)=true:=by simp[h2]
   rw[e1',e2];go_enter Tryz.func61,Tryz.ntmps61;go_wp2_with fail;refine(hso.out _ hm0.out).mono ?_;rintro e w1 ⟨rfl,hm1⟩;have hm1H:=Lib.hid (hm0.out.nil_then hm1);clear hm1 hso hm0;go_wp2_with fail;go_ret;exact⟨by simp,hm1H.out⟩
  ·have e2:decide (n≤size)=false:=by simp;omega
   rw[e1',e2];go_enter Tryz.func61,Tryz.ntmps61;go_wp2_with fail;refine(hso.out _ hm0.out).mono ?_;rintro e w1 ⟨rfl,hm1⟩;have hm1H:=Lib.hid (hm0.out.nil_then hm1);clear hm1 hso hm0;go_wp2_with fail;go_ret;exact⟨by simp,hm1H.out⟩
 ·have e1:decide (off≥0)=false:=by simp;omega
  have e1':decide (0≤off)=false:=by simp;omega
  rw[e1'];go_enter Tryz.func61,Tryz.ntmps61;go_wp2_with fail;refine(hso.out _ hm0.out).mono ?_;rintro e w1 ⟨rfl,hm1⟩;have hm1H:=Lib.hid (hm0.out.nil_then hm1);clear hm1 hso hm0;go_wp2_with fail;go_ret;exact⟨by simp,hm1H.out⟩
def resX (s:HS) (p o acc:Int):Tb.Ent:=if accD s p o acc=0 then entH s o else Tb.ent0
theorem resX_zero {s:HS} {p o acc:Int} (h:accD s p o acc=0):resX s p o acc=entH s o:=by unfold resX;rw[if_pos h]
theorem resX_bad {s:HS} {p o acc:Int} (h:accD s p o acc≠0):Tb.entV (resX s p o acc)=.agg #[.int .u64 0,.int .i64 0,.int .i64 0,.int .i64 0,.int .i64 0]:=by unfold resX;rw[if_neg h];rfl
theorem accD_res {s:HS} {p o acc:Int} (h:Tb.resE s.T o≠0):accD s p o acc=Tb.resE s.T o:=by unfold accD;rw[if_neg h]
theorem accD_acc {s:HS} {p o acc:Int} (h:Tb.resE s.T o=0):accD s p o acc=Bw.accE s.L (Tb.hSlot o) p (decide ((entH s o).owner=p)) acc:=by unfold accD;rw[if_pos h]
theorem hresolve_ok {F:List Nat} {W w:World} {cs:List Comp} {a:HA} {c:HC} {k:Nat} {s:HS} (hc:c.Ok) (hI:HInv c k s) (hk:k≤1000) {u:List Ext} {B:List Int} {fm:Int→Qt.Q} (hS:Scene F W (hpP a c s.R s.T s.L s.evs s.miss s.st u B fm++cs) w)
  (p o acc:Int) (o0:0≤o) (o1:o≤18446744073709551615):
  Calls Tryz.prog 60 #[.pointer (some ⟨a.hb,0,none⟩),.int .i64 p,.int .u64 o,.int .i64 acc] w fun e w'=>e=.returned (.tuple #[Tb.entV (resX s p o acc),.int .i64 (accD s p o acc)])∧Mod [] w w':=by
 have hm0:=Lib.hid ((Mod.refl [] w).alloc (.cells #[.int .u64 0,.int .i64 0,.int .i64 0,.int .i64 0,.int .i64 0] 141));have hr0:=Lib.hid (at_alloc w (.cells #[.int .u64 0,.int .i64 0,.int .i64 0,.int .i64 0,.int .i64 0] 141));have hb:=hS.block 0 rfl;have hrs:=Lib.hid fun w' (hm:Mod [] w w')=>(show Calls Tryz.prog _ #[.pointer (some ⟨a.tb,0,none⟩),.int .u64 o] w' (fun e w''=>e=.returned (Tb.resV s.T o)∧Mod [] w' w'')from by
  obtain⟨_,⟨_,hA,hH⟩,_⟩:=(hS.then hm).part 3 rfl;exact Tb.resolve_ok hI.tin hA o o0 o1 hc.n (Scene.start hH))
 have hac:=Lib.hid fun w' (hm:Mod [] w w')=>Bw.access_ok (Bw.LedV.of ((hS.then hm).part 4 rfl).choose_spec.1) hI.lin (by have:=hI.llen;omega) (Tb.hSlot o) p (decide ((entH s o).owner=p)) acc
 have hsl:=Lib.hid fun w'=>Tb.slot_ok o o0 o1 w'
 have hch:=cells_of (hm0.out.at hb (by simp));have hbH:=Lib.hid hb;by_cases hE:Tb.resE s.T o=0
 ·have hz:=accD_acc (p:=p) (acc:=acc) hE;have hrv:Tb.resV s.T o=.tuple #[Tb.entV (entH s o),.int .i64 0]:=by unfold Tb.resV;rw[hE];rfl
  rw[hrv]at hrs;have hx1:=Lib.hid fun(h:accD s p o acc=0)=>resX_zero h
  have hx2:=Lib.hid fun(h:accD s p o acc≠0)=>resX_bad h
  rw[hz]at hx1 hx2⊢;generalize Bw.accE s.L (Tb.hSlot o) p (decide ((entH s o).owner=p)) acc=E at*;generalize resX s p o acc=Y at*;generalize Tb.hSlot o=sl at*;generalize entH s o=X at*;obtain⟨xh,xo,xt,xf,xl⟩:=X;simp only[Tb.entV]at hrs hac hx2;obtain⟨b,hbb⟩:∃b,decide (xo=p)=b:=⟨_,rfl⟩;rw[hbb]at hac;have hbe:(xo==p)=b:=by rw[←hbb];simp[BEq.beq]
  obtain⟨YV,hYV⟩:∃YV,Tb.entV Y=YV:=⟨_,rfl⟩;rw[hYV];have hYH:=Lib.hid hYV;clear hz hrv hE hS hb hbb hYV;go_enter Tryz.func60,Tryz.ntmps60;go_wp2_with fail;refine(hrs.out _ hm0.out).mono ?_;rintro e w1 ⟨rfl,hm1⟩;have hm1H:=Lib.hid ((hm0.out.nil_then hm1).alloc (.cells #[.int .u64 xh,.int .i64 xo,.int .i64 xt,.int .i64 xf,.int .i64 xl] 141));have hr1:=Lib.hid (at_alloc_old (o:=.cells #[.int .u64 xh,.int .i64 xo,.int .i64 xt,.int .i64 xf,.int .i64 xl] 141) (hm1.at hr0.out (by simp)));have hx0:=Lib.hid (at_alloc w1 (.cells #[.int .u64 xh,.int .i64 xo,.int .i64 xt,.int .i64 xf,.int .i64 xl] 141));have hlt:=hm1.gt;clear hm1 hrs hm0 hr0 hch;go_wp2_with fail;generalize hW1:w1.alloc (.cells #[.int .u64 xh,.int .i64 xo,.int .i64 xt,.int .i64 xf,.int .i64 xl] 141)=W1 at*;have hb1:=Lib.hid (hm1H.out.at hbH.out (by simp));have k1:=GW.cells (S:=[]) hb1.out (by simp);have k2:=GW.cells (S:=[]) hx0.out (by simp);refine wp_region_pure (by kernel_rfl) (by kernel_rfl) ?_;refine stage_quiet 5 (by kernel_rfl) ?_;simp only[tA,tB,tC,tD];(repeat go_big_quiet_step (fail));refine wpQuiet_nil ?_;refine stage_pure 103 #[.int .u64 o] (.int .i64 sl) rfl Tryz.call103 rfl rfl (fun w' _=>hsl.out w') ?_;simp only[Act.put,sA,sB,sC];refine stage_quiet 6 (by kernel_rfl) ?_;simp only[tA,tB,tC,tD];(repeat go_big_quiet_step (fail));refine wpQuiet_nil ?_;refine stage_pure 108 #[.pointer (some ⟨a.lb,0,none⟩),.int .i64 sl,.int .i64 p,.bool b,.int .i64 acc] (.int .i64 E) rfl Tryz.call108 rfl rfl (fun w' hm=>hac.out w' (hm1H.out.nil_then hm)) ?_;simp only[Act.put,sA,sB,sC];refine stage_quiet 1 (by kernel_rfl) ?_;simp only[tA,tB,tC,tD];(repeat go_big_quiet_step (fail));refine wpQuiet_nil ?_;refine stage_nil fun w2 hm2=> ?_
  have hm2H:=Lib.hid (hm1H.out.nil_then hm2);have hr2:=Lib.hid (hm2.at hr1.out (by simp));have hx2':=Lib.hid (hm2.at hx0.out (by simp));have c1:=cells_of hx2'.out;have c2:=cells_of hr2.out;have f2:=frozen_of hr2.out;clear k1 k2 hm2 hsl hac hm1H hr1 hx0 hb1 hW1;by_cases hE0:E=0
  ·subst hE0;have hy:=hx1.out rfl;have hyv:YV=.agg #[.int .u64 xh,.int .i64 xo,.int .i64 xt,.int .i64 xf,.int .i64 xl]:=by rw[←hYH.out,hy];rfl
   subst hyv;clear hy hx1 hx2;go_wp2_with fail;have hq5:=(at_setCell (o:=4) (v:=.int .i64 xl) (at_setCell (o:=3) (v:=.int .i64 xf) (at_setCell (o:=2) (v:=.int .i64 xt) (at_setCell (o:=1) (v:=.int .i64 xo) (at_setCell (o:=0) (v:=.int .u64 xh) hr2.out)))));have hm5:=(((((hm2H.out.setCell (p:=⟨w.heap.size,0,none⟩) (.inr (Nat.le_refl _)) (.int .u64 xh)).setCell (p:=⟨w.heap.size,1,none⟩) (.inr (Nat.le_refl _)) (.int .i64 xo)).setCell (p:=⟨w.heap.size,2,none⟩) (.inr (Nat.le_refl _)) (.int .i64 xt)).setCell (p:=⟨w.heap.size,3,none⟩) (.inr (Nat.le_refl _)) (.int .i64 xf)).setCell (p:=⟨w.heap.size,4,none⟩) (.inr (Nat.le_refl _)) (.int .i64 xl));refine bodyPost_ret (ret_cell_tmp Tryz.results60 rfl rfl hq5 Tryz.underlying141 rfl (by kernel_rfl)) rfl ?_;exact⟨rfl,hm5⟩
  ·have hyv:=hYH.out.symm.trans (hx2.out hE0);have hne:(E != 0)=true:=by simpa using hE0
   subst hyv;clear hx1 hx2 hE0;go_wp2_with fail;have hq5:=(at_setCell (o:=4) (v:=.int .i64 0) (at_setCell (o:=3) (v:=.int .i64 0) (at_setCell (o:=2) (v:=.int .i64 0) (at_setCell (o:=1) (v:=.int .i64 0) (at_setCell (o:=0) (v:=.int .u64 0) hr2.out)))));have hm5:=(((((hm2H.out.setCell (p:=⟨w.heap.size,0,none⟩) (.inr (Nat.le_refl _)) (.int .u64 0)).setCell (p:=⟨w.heap.size,1,none⟩) (.inr (Nat.le_refl _)) (.int .i64 0)).setCell (p:=⟨w.heap.size,2,none⟩) (.inr (Nat.le_refl _)) (.int .i64 0)).setCell (p:=⟨w.heap.size,3,none⟩) (.inr (Nat.le_refl _)) (.int .i64 0)).setCell (p:=⟨w.heap.size,4,none⟩) (.inr (Nat.le_refl _)) (.int .i64 0));refine bodyPost_ret (ret_cell_tmp Tryz.results60 rfl rfl hq5 Tryz.underlying141 rfl (by kernel_rfl)) rfl ?_;exact⟨rfl,hm5⟩
 ·have hz:=accD_res (p:=p) (acc:=acc) hE;have hrv:=Tb.resV_bad (x:=s.T) (h:=o) rfl hE;rw[hrv]at hrs;have hx2:=resX_bad (s:=s) (p:=p) (o:=o) (acc:=acc) (by rw[hz];exact hE);rw[hx2,hz];generalize Tb.resE s.T o=E at*;have he0:(E==0)=false:=by simpa using hE
  have hne:(E != 0)=true:=by simpa using hE
  clear hz hrv hE hS hx2 hac hsl;go_enter Tryz.func60,Tryz.ntmps60;go_wp2_with fail;refine(hrs.out _ hm0.out).mono ?_;rintro e w1 ⟨rfl,hm1⟩;have hm2H:=Lib.hid (hm0.out.nil_then hm1);have hr2:=Lib.hid (hm1.at hr0.out (by simp));have hlt:=hm1.gt;have c2:=cells_of (hm1.at hr0.out (by simp));have f2:=frozen_of (hm1.at hr0.out (by simp));clear hm1 hrs hm0 hr0 hch;go_wp2_with fail;have hq5:=(at_setCell (o:=4) (v:=.int .i64 0) (at_setCell (o:=3) (v:=.int .i64 0) (at_setCell (o:=2) (v:=.int .i64 0) (at_setCell (o:=1) (v:=.int .i64 0) (at_setCell (o:=0) (v:=.int .u64 0) hr2.out)))));have hm5:=(((((hm2H.out.setCell (p:=⟨w.heap.size,0,none⟩) (.inr (Nat.le_refl _)) (.int .u64 0)).setCell (p:=⟨w.heap.size,1,none⟩) (.inr (Nat.le_refl _)) (.int .i64 0)).setCell (p:=⟨w.heap.size,2,none⟩) (.inr (Nat.le_refl _)) (.int .i64 0)).setCell (p:=⟨w.heap.size,3,none⟩) (.inr (Nat.le_refl _)) (.int .i64 0)).setCell (p:=⟨w.heap.size,4,none⟩) (.inr (Nat.le_refl _)) (.int .i64 0));have hq6:=at_alloc_old (o:=.cells #[.int .u64 0,.int .i64 0,.int .i64 0,.int .i64 0,.int .i64 0] 141) hq5;refine bodyPost_ret (ret_cell_tmp Tryz.results60 rfl rfl hq6 Tryz.underlying141 rfl (by kernel_rfl)) rfl ?_;exact⟨rfl,hm5.alloc _⟩
end Go.Proofs.YtgfdeiijblakfaaGreat
namespace Go.Proofs.YtgfdeiijblakfaaGreat
open Go Go.RowKit Go.Stg
section
variable {b:Nat} {l:Qt.Q} {f:Int→Qt.Q} {w:World} {fp:List Nat} (h:(meterC b l f).on w fp)
include h
theorem changed_takes {fn:FuncId} {args:Array Value} {v:Value} {f':Int→Qt.Q} (hc:∀mo,Qt.MeterAt w b mo l f→Calls Tryz.prog fn args w (Qt.Changed v b mo l f' w)):Calls Tryz.prog fn args w (Takes (meterC b l f') v w fp):=by
 obtain⟨mo,hM,rfl⟩:=h;refine(hc mo hM).mono ?_;rintro e w' ⟨mo',he,hm,hM',hn⟩;exact⟨b::mo'.toList,he,⟨mo',hM',rfl⟩,hm,fun x hx=>by
  rcases List.mem_cons.1 hx with rfl|hx
  ·exact .inl (by simp)
  ·rw[Option.mem_toList]at hx;exact(hn x hx).imp (fun h=>by simp[h]) id⟩
theorem mfits_ok (p:Int) (q:Qt.Q):Calls Tryz.prog 79 #[.pointer (some ⟨b,0,none⟩),.int .i64 p,.agg #[.int .i64 q.b,.int .i64 q.o,.int .i64 q.r]] w fun e w'=>e=.returned (.int .i64 (Qt.fitsE l (f p) q))∧Mod [] w w':=by
 obtain⟨mo,hM,rfl⟩:=h;exact Qt.Fits_any p q l b mo f w hM
theorem madd_ok (p:Int) (q:Qt.Q) (hf:Qt.fitsE l (f p) q=0):Calls Tryz.prog 82 #[.pointer (some ⟨b,0,none⟩),.int .i64 p,.agg #[.int .i64 q.b,.int .i64 q.o,.int .i64 q.r]] w (Takes (meterC b l (Qt.upd f p ((f p).add q))) (.int .i64 0) w fp):=
 changed_takes h fun mo hM=>Qt.Add_yes p q l b mo f w hM hf
end
theorem hp_close {F:List Nat} {W w:World} {cs:List Comp} {a:HA} {c:HC} {s':HS} {u:List Ext} {B:List Int} {fm:Int→Qt.Q} (hu:u=usedH c s') (hfm:∀p,fm p=hasH c s' p) (hB:ArIs c.size (obs c s') B)
  (h:Scene F W (hpP a c s'.R s'.T s'.L s'.evs s'.miss s'.st u B fm++cs) w):Scene F W (hpA a c s'::cs) w:=by
 subst hu;obtain rfl:fm=hasH c s':=funext hfm;exact hp_shut hB h
theorem sub_zero {x q:Qt.Q} (h1:0≤q.b∧q.b≤x.b) (h2:0≤q.o∧q.o≤x.o) (h3:0≤q.r∧q.r≤x.r):Qt.subE x q=0:=by
 unfold Qt.subE;rw[if_neg];simp only[Qt.negB,Qt.overB,Bool.or_eq_true,decide_eq_true_eq];omega
theorem came_upd {c:HC} {k:Nat} {s s':HS} {x:Ob} {p:Int} (hg:Came c k s s' x p) (q:Int):Qt.upd (hasH c s) p ((hasH c s p).add (wq x.1.2)) q=hasH c s' q:=by
 unfold Qt.upd;rw[hg.has q];by_cases e:q=p
 ·rw[if_pos e,if_pos e,e]
 ·rw[if_neg e,if_neg e]
end Go.Proofs.YtgfdeiijblakfaaGreat
