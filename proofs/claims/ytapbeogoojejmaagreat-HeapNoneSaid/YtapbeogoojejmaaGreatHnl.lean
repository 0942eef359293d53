/- HeapNone: the law's lists of a heap that is nil or zero. -/
import Derived.Test.YtapbeogoojejmaaGreatHno
import Derived.Test.YtapbeogoojejmaaGreatC02
import Derived.Test.YtapbeogoojejmaaGreatC03
import Derived.Test.YtapbeogoojejmaaGreatC04
import Derived.Test.YtapbeogoojejmaaGreatC06
import Derived.Test.YtapbeogoojejmaaGreatC07
import Derived.Test.YtapbeogoojejmaaGreatC08
import Derived.Test.YtapbeogoojejmaaGreatC09
import Derived.Test.YtapbeogoojejmaaGreatC10
import Derived.Test.YtapbeogoojejmaaGreatC14
import Derived.Test.YtapbeogoojejmaaGreatC15
import Derived.Test.YtapbeogoojejmaaGreatC16
import Derived.Test.YtapbeogoojejmaaGreatC17
import Derived.Test.YtapbeogoojejmaaGreatC18
import Derived.Test.YtapbeogoojejmaaGreatC19
import Derived.Test.YtapbeogoojejmaaGreatC20
import Derived.Test.YtapbeogoojejmaaGreatC25
import Derived.Test.YtapbeogoojejmaaGreatC26
import Derived.Test.YtapbeogoojejmaaGreatC29
import Derived.Test.YtapbeogoojejmaaGreatC30
import Derived.Test.YtapbeogoojejmaaGreatC43
import Derived.Test.YtapbeogoojejmaaGreatCS
set_option maxHeartbeats 4000000
set_option maxRecDepth 100000
namespace Go.Proofs.YtapbeogoojejmaaGreat
open Go Go.RowKit Go.Stg
attribute [local go_sem] Oper.semAt_some
theorem belowK_b' {n B:Nat} (h:n≤B):∀(W:World) (l:Nat) (o o':Obj),B≤l→W.heap[l]? =some o→o.isCells=false→o.isWalk=false→RowKit.Below n W (W.putObj l o'):=by
 intro W l o o' hl _ _ _;exact⟨rfl,rfl,rfl,by simp[World.putObj],fun k hk=>World.putObj_heap_other (by omega)⟩
def encO (v:Value):Array Value:=#[v]
def encE (v:Value×Value):Array Value:=#[v.1,v.2]
theorem law_objects {w:World} {q:Option Addr} (h:NulH w q):Calls Tryz.prog 23 #[.pointer q] w fun e w'=>e=.returned (.slice none 0 0)∧Mod [] w w':=by
 refine(callsIn_wide (n:=5)).1 ?_;refine callsIn_of_wp_marks Tryz.func23 rfl trivial ?_ rfl;simp only[Tryz.ntmps23,List.size_toArray,List.length_cons,List.length_nil,Nat.reduceAdd,Nat.reduceSub,Array.replicate_succ,Array.replicate_zero,List.push_toArray,List.append_toArray,List.nil_append,List.cons_append]
 gi_wp2_with fail
 refine⟨trivial,(callsIn_wide.2 (objects_made q _)).mono ?_⟩;rintro e w2 ⟨rfl,rfl⟩;have hm0:=(Mod.refl [] w).alloc (.cells #[.slice none 0 0] 63);have b0:=at_alloc_old (o:=.cells #[.pointer q] 31) (at_alloc w (.cells #[.slice none 0 0] 63));have b1:=at_alloc (w.alloc (.cells #[.slice none 0 0] 63)) (.cells #[.pointer q] 31);have hm1:=hm0.alloc (.cells #[.pointer q] 31);have hN:=h.mod hm1;have hz:(w.alloc (.cells #[.slice none 0 0] 63)).heap.size=w.heap.size+1:=by simp
 have hz2:((w.alloc (.cells #[.slice none 0 0] 63)).alloc (.cells #[.pointer q] 31)).heap.size=w.heap.size+1+1:=by simp
 rw[hz]at b1;have hB:=hm1.below;clear hm0 h hz
 gi_wp2_with fail
 generalize(w.alloc (.cells #[.slice none 0 0] 63)).alloc (.cells #[.pointer q] 31)=W1 at*;generalize hq0:w.heap.size=r at*;have hst:=says_none (α:=Value) (enc:=encO) (n₀:=r) (lb:=#[.pointer (some ⟨r+1,0,none⟩)]) 4 (fun W hm f=>nulh_objsC (hN.mod hm) (hm.at b1 (by simp)) f);refine wpIn_rangeFunc_at rfl (by omega) (gf:=144) (lb:=#[.pointer (some ⟨r+1,0,none⟩)]) rfl trivial (enters_of Tryz.func144 (by kernel_rfl) rfl) hst (RowKit.Below.refl _ _) (fun _=>rfl)
  (fun h k=>h.trans k) (belowK_b' (by omega))
  (fun(_:List Value) W=>W.heap[r]? =some (.cells #[.slice none 0 0] 63 (0,0))∧RowKit.Below r w W) (fun _ _ _=>False)
  ?hI (fun _=>ownFrom_pure _ _) ⟨b0,hB⟩ (fun T _ _=>T) (fun _ _ _ _=>False) (fun _ _ _=>ownFrom_pure _ _) ?assign ?body ?done ?stop
 case hI=>
  rintro pre A B row ⟨i1,i4⟩ hg hr;have keep:∀ {k:Nat} {cs:Array Value} {t:TypeId},A.heap[k]? =some (.cells cs t (0,0))→B.heap[k]? =some (.cells cs t (0,0)):=fun {k cs t} hk=>(hg.block k (lt_of hk) (fun e'=>by obtain⟨_,o,ho,hc⟩:=hr k e'.symm;rw[hk]at ho;cases ho;cases hc)).trans hk
  exact⟨keep i1,ownFrom_below (β:=Unit) (n₀:=r) (by omega) (B:=W1.heap.size) (by omega) () A B row i4 hg hr⟩
 case assign=>
  rintro l pre x W K _ h _;exact h.elim
 case body=>
  rintro l pre x r W _ h _;exact h.elim
 case stop=>
  rintro D c pre W _ h _ _;exact h.elim
 case done=>
  rintro D ys W hD _ ⟨i1,i4⟩ hK;have c1:=cells_of i1;have i4H:=Lib.hid i4;have hKH:=Lib.hid hK;clear hst i1 i4 hK b0 b1 hB hN hm1
  gi_wp2_with fail
  refine⟨by simp,.inl ⟨_,_,rfl,run_takeDeferred hKH.out,?_⟩⟩;have hB4:=i4H.out.trans (belowK_b' (n:=r) (B:=r) (Nat.le_refl _) W D _ (.deferred none) (by omega) hKH.out rfl rfl);refine⟨.slice none 0 0,?_,rfl,Mod.of_below (by rw[hq0];exact hB4)⟩;simp[results,Tryz.results23,asAddr,go_sem]
theorem law_events {w:World} {q:Option Addr} (h:NulH w q):Calls Tryz.prog 30 #[.pointer q] w fun e w'=>e=.returned (.slice none 0 0)∧Mod [] w w':=by
 refine(callsIn_wide (n:=5)).1 ?_;refine callsIn_of_wp_marks Tryz.func30 rfl trivial ?_ rfl;simp only[Tryz.ntmps30,List.size_toArray,List.length_cons,List.length_nil,Nat.reduceAdd,Nat.reduceSub,Array.replicate_succ,Array.replicate_zero,List.push_toArray,List.append_toArray,List.nil_append,List.cons_append];have hm0:=(Mod.refl [] w).alloc (.cells #[.slice none 0 0] 73);have b0:=at_alloc w (.cells #[.slice none 0 0] 73);have hN:=Lib.hid (h.mod hm0);clear h
 gi_wp2_with fail
 refine⟨trivial,(callsIn_wide.2 (nulh_events hN.out)).mono ?_⟩;rintro e w2 ⟨Bs,rfl,b1,hm1⟩;have b0:=hm1.at b0 (by simp);have hm1:=hm0.nil_then hm1;have hB:=hm1.below;have hsz:=hm1.size;have hlt:=lt_of b0;clear hm0 hN
 gi_wp2_with fail
 generalize hq0:w.heap.size=r at*;have hst:=says_none (α:=Value×Value) (enc:=encE) (n₀:=r) (lb:=#[.pointer (some ⟨Bs,0,none⟩),.pointer (some ⟨Bs+1,0,none⟩)]) 4 (fun W hm f=>nul_listC (hm.at b1 (by simp)) f _);refine wpIn_rangeFunc_at rfl (by omega) (gf:=199) (lb:=#[.pointer (some ⟨Bs,0,none⟩),.pointer (some ⟨Bs+1,0,none⟩)]) rfl trivial (enters_of Tryz.func199 (by kernel_rfl) rfl) hst (RowKit.Below.refl _ _) (fun _=>rfl)
  (fun h k=>h.trans k) (belowK_b' (by omega))
  (fun(_:List (Value×Value)) W=>W.heap[r]? =some (.cells #[.slice none 0 0] 73 (0,0))∧RowKit.Below r w W) (fun _ _ _=>False)
  ?hI (fun _=>ownFrom_pure _ _) ⟨b0,hB⟩ (fun T _ _=>T) (fun _ _ _ _=>False) (fun _ _ _=>ownFrom_pure _ _) ?assign ?body ?done ?stop
 case hI=>
  rintro pre A B row ⟨i1,i4⟩ hg hr;have keep:∀ {k:Nat} {cs:Array Value} {t:TypeId},A.heap[k]? =some (.cells cs t (0,0))→B.heap[k]? =some (.cells cs t (0,0)):=fun {k cs t} hk=>(hg.block k (lt_of hk) (fun e'=>by obtain⟨_,o,ho,hc⟩:=hr k e'.symm;rw[hk]at ho;cases ho;cases hc)).trans hk
  exact⟨keep i1,ownFrom_below (β:=Unit) (n₀:=r) (by omega) (B:=w2.heap.size) (by omega) () A B row i4 hg hr⟩
 case assign=>
  rintro l pre x W K _ h _;exact h.elim
 case body=>
  rintro l pre x r W _ h _;exact h.elim
 case stop=>
  rintro D c pre W _ h _ _;exact h.elim
 case done=>
  rintro D ys W hD _ ⟨i1,i4⟩ hK;have c1:=cells_of i1;have i4H:=Lib.hid i4;have hKH:=Lib.hid hK;clear hst i1 i4 hK b0 b1 hB hm1
  gi_wp2_with fail
  refine⟨by simp,.inl ⟨_,_,rfl,run_takeDeferred hKH.out,?_⟩⟩;have hB4:=i4H.out.trans (belowK_b' (n:=r) (B:=r) (Nat.le_refl _) W D _ (.deferred none) (by omega) hKH.out rfl rfl);refine⟨.slice none 0 0,?_,rfl,Mod.of_below (by rw[hq0];exact hB4)⟩;simp[results,Tryz.results30,asAddr,go_sem]
end Go.Proofs.YtapbeogoojejmaaGreat
