/- Host calls: the caller, its arguments; host calls over a heap that is nil or zero. -/
import Derived.Test.YtgfdeiijblakfaaGreatC01
import Derived.Test.YtgfdeiijblakfaaGreatC02
import Derived.Test.YtgfdeiijblakfaaGreatC04
import Derived.Test.YtgfdeiijblakfaaGreatC06
import Derived.Test.YtgfdeiijblakfaaGreatC07
import Derived.Test.YtgfdeiijblakfaaGreatC08
import Derived.Test.YtgfdeiijblakfaaGreatC09
import Derived.Test.YtgfdeiijblakfaaGreatC10
import Derived.Test.YtgfdeiijblakfaaGreatC13
import Derived.Test.YtgfdeiijblakfaaGreatC14
import Derived.Test.YtgfdeiijblakfaaGreatC16
import Derived.Test.YtgfdeiijblakfaaGreatC17
import Derived.Test.YtgfdeiijblakfaaGreatC18
import Derived.Test.YtgfdeiijblakfaaGreatC19
import Derived.Test.YtgfdeiijblakfaaGreatC20
import Derived.Test.YtgfdeiijblakfaaGreatC21
import Derived.Test.YtgfdeiijblakfaaGreatC25
import Derived.Test.YtgfdeiijblakfaaGreatC26
import Derived.Test.YtgfdeiijblakfaaGreatC27
import Derived.Test.YtgfdeiijblakfaaGreatC28
import Derived.Test.YtgfdeiijblakfaaGreatC30
import Derived.Test.YtgfdeiijblakfaaGreatC31
import Derived.Test.YtgfdeiijblakfaaGreatC34
import Derived.Test.YtgfdeiijblakfaaGreatC38
import Derived.Test.YtgfdeiijblakfaaGreatC39
import Derived.Test.YtgfdeiijblakfaaGreatCS
set_option maxHeartbeats 4000000
set_option maxRecDepth 20000
namespace Go.Proofs.YtgfdeiijblakfaaGreat
open Go Go.RowKit Go.Stg
def idxI (x:Int):Int:=if 1048576<x then -1 else x
theorem index_ok (x:Int) (h0:0≤x) (w:World):Calls Tryz.prog 91 #[.int .u64 x] w fun e w'=>e=.returned (.int .i64 (idxI x))∧Mod [] w w':=by
 unfold idxI;by_cases h:1048576<x
 ·rw[if_pos h];go_enter Tryz.func91,Tryz.ntmps91;go_wp2_with fail;go_ret;exact⟨rfl,Mod.refl _ _⟩
 ·rw[if_neg h];have hw:wrap64 x=x:=by unfold wrap64;omega
  have hd:decide (1048576<x)=false:=by simp;omega
  clear h;go_enter Tryz.func91,Tryz.ntmps91;go_wp2_with fail;go_ret;exact⟨congrArg (fun z=>Ending.returned (.int .i64 z)) hw,Mod.refl _ _⟩
structure CallAt (w:World) (cb:Nat) (hv:Value) (p:Int) (tv:Value) (ab n cap:Nat) (d:Int) (cs:Array Value) (T:TypeId) (xs:Nat→Int):Prop where
 blk:w.heap[cb]? =some (.cells #[hv,.int .i64 p,tv,.slice (some ⟨ab,0,none⟩) n cap,.int .u64 d] 79 (0,0))
 arr:w.heap[ab]? =some (.cells cs T (0,0))
 val:∀j,j<n→cs[j]? =some (.int .u64 (xs j))
 pos:∀j,j<n→0≤xs j∧xs j≤18446744073709551615
section
variable {w:World} {cb:Nat} {hv:Value} {p:Int} {tv:Value} {ab n cap:Nat} {d:Int} {cs:Array Value} {T:TypeId} {xs:Nat→Int}
theorem CallAt.mod {w':World} (h:CallAt w cb hv p tv ab n cap d cs T xs) (hm:Mod [] w w'):CallAt w' cb hv p tv ab n cap d cs T xs:=
 ⟨hm.at h.blk (by simp),hm.at h.arr (by simp),h.val,h.pos⟩
theorem chandle_ok (h:CallAt w cb hv p tv ab n cap d cs T xs) (j:Nat) (hj:j<n):Calls Tryz.prog 47 #[.pointer (some ⟨cb,0,none⟩),.int .i64 j] w fun e w'=>e=.returned (.int .u64 (xs j))∧Mod [] w w':=by
 have hc:=cells_of h.blk;have hx:w.cell? ⟨ab,j,none⟩=some (.int .u64 (xs j)):=by rw[cells_of h.arr j];exact h.val j hj
 have h0:(0:Int)≤j:=by omega
 have h1:(j:Int)<n:=by omega
 clear h hj;go_enter Tryz.func47,Tryz.ntmps47;go_wp2_with fail;go_ret;exact⟨rfl,Mod.refl _ _⟩
theorem cindex_ok (h:CallAt w cb hv p tv ab n cap d cs T xs) (j:Nat) (hj:j<n):Calls Tryz.prog 49 #[.pointer (some ⟨cb,0,none⟩),.int .i64 j] w fun e w'=>e=.returned (.int .i64 (idxI (xs j)))∧Mod [] w w':=by
 have hc:=cells_of h.blk;have hx:w.cell? ⟨ab,j,none⟩=some (.int .u64 (xs j)):=by rw[cells_of h.arr j];exact h.val j hj
 have h0:(0:Int)≤j:=by omega
 have h1:(j:Int)<n:=by omega
 have hi:=Lib.hid (index_ok (xs j) (h.pos j hj).1 w);clear h hj;go_enter Tryz.func49,Tryz.ntmps49;go_wp2_with fail;refine hi.out.mono ?_;rintro e w1 ⟨rfl,hm⟩;go_wp2_with fail;go_ret;exact⟨rfl,hm⟩
theorem ctag_nil (h:CallAt w cb hv p (.slice none 0 0) ab n cap d cs T xs) (hn:0<n):Calls Tryz.prog 45 #[.pointer (some ⟨cb,0,none⟩)] w fun e w'=>e=.returned (.int .i64 0)∧Mod [] w w':=by
 have hi:=Lib.hid (cindex_ok h 0 hn);have hb:=Lib.hid h.blk;clear h hn;by_cases hx:0≤idxI (xs 0)
 ·have hd:decide (0≤idxI (xs 0))=true:=by simp[hx]
  have hd2:decide (idxI (xs 0)<0)=false:=by simp[hx]
  clear hx;generalize idxI (xs 0)=y at*;go_enter Tryz.func45,Tryz.ntmps45;go_wp2_with fail;refine hi.out.mono ?_;rintro e w1 ⟨rfl,hm⟩;have hc:=cells_of (hm.at hb.out (by simp));go_wp2_with fail;go_ret;exact⟨rfl,hm⟩
 ·have hd:decide (0≤idxI (xs 0))=false:=by simp[hx]
  clear hx;generalize idxI (xs 0)=y at*;go_enter Tryz.func45,Tryz.ntmps45;go_wp2_with fail;refine hi.out.mono ?_;rintro e w1 ⟨rfl,hm⟩;have hc:=cells_of (hm.at hb.out (by simp));go_wp2_with fail;go_ret;exact⟨rfl,hm⟩
section
variable {q:Option Addr} (h:NulH w q)
include h
theorem nuldo_1 (hc:CallAt w cb (.pointer q) p (.slice none 0 0) ab 1 cap d cs T xs):Calls Tryz.prog 25 #[.pointer (some ⟨cb,0,none⟩),.int .i64 1] w fun e w'=>e=.returned (.tuple #[.int .u64 0,.int .i64 15])∧Mod [] w w':=by
 have hH:=Lib.hid fun w' (hm:Mod [] w w')=>hc.mod hm
 have hN:=Lib.hid fun w' (hm:Mod [] w w')=>h.mod hm
 have k1:=GW.cells (S:=[]) hc.blk (by simp);clear h hc;go_enter Tryz.func25,Tryz.ntmps25;go_wp2_with fail;refine wp_region_pure (by kernel_rfl) (by kernel_rfl) ?_;refine stage_quiet 9 (by kernel_rfl) ?_;simp only[List.take_succ_cons,List.take_zero,List.drop_succ_cons,List.drop_zero]
 repeat (go_big_quiet_step (fail))
 refine wpQuiet_nil ?_;refine stage_pure 45 #[.pointer (some ⟨cb,0,none⟩)] (.int .i64 0) rfl Tryz.call45 rfl rfl (fun w' hm=>ctag_nil (hH.out _ hm) (by omega)) ?_;simp only[Act.put,List.setIfInBounds_toArray,List.set_cons_succ,List.set_cons_zero];refine stage_quiet 4 (by kernel_rfl) ?_;simp only[List.take_succ_cons,List.take_zero,List.drop_succ_cons,List.drop_zero]
 repeat (go_big_quiet_step (fail))
 refine wpQuiet_nil ?_;refine stage_pure 44 #[.pointer q,.int .i64 p,.int .i64 0,.int .u64 d] (.tuple #[.int .u64 0,.int .i64 15]) rfl Tryz.call44 rfl rfl (fun w' hm=>nulh_alloc (hN.out _ hm) p 0 d) ?_;simp only[Act.put,List.setIfInBounds_toArray,List.set_cons_succ,List.set_cons_zero];refine stage_quiet 5 (by kernel_rfl) ?_;simp only[List.take_succ_cons,List.take_zero,List.drop_succ_cons,List.drop_zero]
 repeat (go_big_quiet_step (fail))
 refine wpQuiet_nil ?_;refine stage_nil fun w1 hm1=> ?_
 clear k1 hH hN;have hm1:=Lib.hid hm1;go_wp2_with fail;go_ret2;exact⟨rfl,hm1.out⟩
theorem nuldo_2 (hc:CallAt w cb (.pointer q) p (.slice none 0 0) ab 1 cap d cs T xs):Calls Tryz.prog 25 #[.pointer (some ⟨cb,0,none⟩),.int .i64 2] w fun e w'=>e=.returned (.tuple #[.int .u64 0,.int .i64 15])∧Mod [] w w':=by
 have hH:=Lib.hid fun w' (hm:Mod [] w w')=>hc.mod hm
 have hN:=Lib.hid fun w' (hm:Mod [] w w')=>h.mod hm
 have k1:=GW.cells (S:=[]) hc.blk (by simp);clear h hc;go_enter Tryz.func25,Tryz.ntmps25;go_wp2_with fail;refine wp_region_pure (by kernel_rfl) (by kernel_rfl) ?_;refine stage_quiet 9 (by kernel_rfl) ?_;simp only[List.take_succ_cons,List.take_zero,List.drop_succ_cons,List.drop_zero]
 repeat (go_big_quiet_step (fail))
 refine wpQuiet_nil ?_;refine stage_pure 47 #[.pointer (some ⟨cb,0,none⟩),.int .i64 0] (.int .u64 (xs 0)) rfl Tryz.call47 rfl rfl (fun w' hm=>chandle_ok (hH.out _ hm) 0 (by omega)) ?_;simp only[Act.put,List.setIfInBounds_toArray,List.set_cons_succ,List.set_cons_zero];refine stage_quiet 0 (by kernel_rfl) ?_;simp only[List.take_zero,List.drop_zero]
 repeat (go_big_quiet_step (fail))
 refine wpQuiet_nil ?_;refine stage_pure 46 #[.pointer q,.int .i64 p,.int .u64 (xs 0)] (.int .i64 15) rfl Tryz.call46 rfl rfl (fun w' hm=>nulh_free (hN.out _ hm) p _) ?_;simp only[Act.put,List.setIfInBounds_toArray,List.set_cons_succ,List.set_cons_zero];refine stage_quiet 2 (by kernel_rfl) ?_;simp only[List.take_succ_cons,List.take_zero,List.drop_succ_cons,List.drop_zero]
 repeat (go_big_quiet_step (fail))
 refine wpQuiet_nil ?_;refine stage_nil fun w1 hm1=> ?_
 clear k1 hH hN;have hm1:=Lib.hid hm1;go_wp2_with fail;go_ret2;exact⟨rfl,hm1.out⟩
theorem nuldo_3 (hc:CallAt w cb (.pointer q) p (.slice none 0 0) ab 2 cap d cs T xs):Calls Tryz.prog 25 #[.pointer (some ⟨cb,0,none⟩),.int .i64 3] w fun e w'=>e=.returned (.tuple #[.int .u64 0,.int .i64 15])∧Mod [] w w':=by
 have hH:=Lib.hid fun w' (hm:Mod [] w w')=>hc.mod hm
 have hN:=Lib.hid fun w' (hm:Mod [] w w')=>h.mod hm
 have k1:=GW.cells (S:=[]) hc.blk (by simp);clear h hc;go_enter Tryz.func25,Tryz.ntmps25;go_wp2_with fail;refine wp_region_pure (by kernel_rfl) (by kernel_rfl) ?_;refine stage_quiet 9 (by kernel_rfl) ?_;simp only[List.take_succ_cons,List.take_zero,List.drop_succ_cons,List.drop_zero]
 repeat (go_big_quiet_step (fail))
 refine wpQuiet_nil ?_;refine stage_pure 47 #[.pointer (some ⟨cb,0,none⟩),.int .i64 0] (.int .u64 (xs 0)) rfl Tryz.call47 rfl rfl (fun w' hm=>chandle_ok (hH.out _ hm) 0 (by omega)) ?_;simp only[Act.put,List.setIfInBounds_toArray,List.set_cons_succ,List.set_cons_zero];refine stage_quiet 1 (by kernel_rfl) ?_;simp only[List.take_succ_cons,List.take_zero,List.drop_succ_cons,List.drop_zero]
 repeat (go_big_quiet_step (fail))
 refine wpQuiet_nil ?_;refine stage_pure 49 #[.pointer (some ⟨cb,0,none⟩),.int .i64 1] (.int .i64 (idxI (xs 1))) rfl Tryz.call49 rfl rfl (fun w' hm=>cindex_ok (hH.out _ hm) 1 (by omega)) ?_;simp only[Act.put,List.setIfInBounds_toArray,List.set_cons_succ,List.set_cons_zero];refine stage_quiet 0 (by kernel_rfl) ?_;simp only[List.take_zero,List.drop_zero]
 repeat (go_big_quiet_step (fail))
 refine wpQuiet_nil ?_;refine stage_pure 48 #[.pointer q,.int .i64 p,.int .u64 (xs 0),.int .i64 (idxI (xs 1))] (.tuple #[.int .u64 0,.int .i64 15]) rfl Tryz.call48 rfl rfl (fun w' hm=>nulh_get (hN.out _ hm) p _ _) ?_;simp only[Act.put,List.setIfInBounds_toArray,List.set_cons_succ,List.set_cons_zero];refine stage_quiet 4 (by kernel_rfl) ?_;simp only[List.take_succ_cons,List.take_zero,List.drop_succ_cons,List.drop_zero]
 repeat (go_big_quiet_step (fail))
 refine wpQuiet_nil ?_;refine stage_nil fun w1 hm1=> ?_
 clear k1 hH hN;have hm1:=Lib.hid hm1;go_wp2_with fail;go_ret2;exact⟨rfl,hm1.out⟩
theorem nuldo_4 (hc:CallAt w cb (.pointer q) p (.slice none 0 0) ab 3 cap d cs T xs):Calls Tryz.prog 25 #[.pointer (some ⟨cb,0,none⟩),.int .i64 4] w fun e w'=>e=.returned (.tuple #[.int .u64 0,.int .i64 15])∧Mod [] w w':=by
 have hH:=Lib.hid fun w' (hm:Mod [] w w')=>hc.mod hm
 have hN:=Lib.hid fun w' (hm:Mod [] w w')=>h.mod hm
 have k1:=GW.cells (S:=[]) hc.blk (by simp);have k2:∀x:GW [] w,x.1.cell? ⟨ab,2,none⟩=some (.int .u64 (xs 2)):=fun x=>by rw[GW.cells (S:=[]) hc.arr (by simp) x 2];exact hc.val 2 (by omega)
 clear h hc;go_enter Tryz.func25,Tryz.ntmps25;go_wp2_with fail;refine wp_region_pure (by kernel_rfl) (by kernel_rfl) ?_;refine stage_quiet 9 (by kernel_rfl) ?_;simp only[List.take_succ_cons,List.take_zero,List.drop_succ_cons,List.drop_zero]
 repeat (go_big_quiet_step (fail))
 refine wpQuiet_nil ?_;refine stage_pure 47 #[.pointer (some ⟨cb,0,none⟩),.int .i64 0] (.int .u64 (xs 0)) rfl Tryz.call47 rfl rfl (fun w' hm=>chandle_ok (hH.out _ hm) 0 (by omega)) ?_;simp only[Act.put,List.setIfInBounds_toArray,List.set_cons_succ,List.set_cons_zero];refine stage_quiet 1 (by kernel_rfl) ?_;simp only[List.take_succ_cons,List.take_zero,List.drop_succ_cons,List.drop_zero]
 repeat (go_big_quiet_step (fail))
 refine wpQuiet_nil ?_;refine stage_pure 49 #[.pointer (some ⟨cb,0,none⟩),.int .i64 1] (.int .i64 (idxI (xs 1))) rfl Tryz.call49 rfl rfl (fun w' hm=>cindex_ok (hH.out _ hm) 1 (by omega)) ?_;simp only[Act.put,List.setIfInBounds_toArray,List.set_cons_succ,List.set_cons_zero];refine stage_quiet 6 (by kernel_rfl) ?_;simp only[List.take_succ_cons,List.take_zero,List.drop_succ_cons,List.drop_zero]
 repeat (go_big_quiet_step (fail))
 refine wpQuiet_nil ?_;refine stage_pure 50 #[.pointer q,.int .i64 p,.int .u64 (xs 0),.int .i64 (idxI (xs 1)),.int .u64 (xs 2)] (.int .i64 15) rfl Tryz.call50 rfl rfl (fun w' hm=>nulh_set (hN.out _ hm) p _ _ _) ?_;simp only[Act.put,List.setIfInBounds_toArray,List.set_cons_succ,List.set_cons_zero];refine stage_quiet 2 (by kernel_rfl) ?_;simp only[List.take_succ_cons,List.take_zero,List.drop_succ_cons,List.drop_zero]
 repeat (go_big_quiet_step (fail))
 refine wpQuiet_nil ?_;refine stage_nil fun w1 hm1=> ?_
 clear k1 k2 hH hN;have hm1:=Lib.hid hm1;go_wp2_with fail;go_ret2;exact⟨rfl,hm1.out⟩
theorem nuldo_7 (hc:CallAt w cb (.pointer q) p (.slice none 0 0) ab 5 cap d cs T xs):Calls Tryz.prog 25 #[.pointer (some ⟨cb,0,none⟩),.int .i64 7] w fun e w'=>e=.returned (.tuple #[.int .u64 0,.int .i64 15])∧Mod [] w w':=by
 have hH:=Lib.hid fun w' (hm:Mod [] w w')=>hc.mod hm
 have hN:=Lib.hid fun w' (hm:Mod [] w w')=>h.mod hm
 have k1:=GW.cells (S:=[]) hc.blk (by simp);clear h hc;go_enter Tryz.func25,Tryz.ntmps25;go_wp2_with fail;refine wp_region_pure (by kernel_rfl) (by kernel_rfl) ?_;refine stage_quiet 9 (by kernel_rfl) ?_;simp only[List.take_succ_cons,List.take_zero,List.drop_succ_cons,List.drop_zero]
 repeat (go_big_quiet_step (fail))
 refine wpQuiet_nil ?_;refine stage_pure 47 #[.pointer (some ⟨cb,0,none⟩),.int .i64 0] (.int .u64 (xs 0)) rfl Tryz.call47 rfl rfl (fun w' hm=>chandle_ok (hH.out _ hm) 0 (by omega)) ?_;simp only[Act.put,List.setIfInBounds_toArray,List.set_cons_succ,List.set_cons_zero];refine stage_quiet 1 (by kernel_rfl) ?_;simp only[List.take_succ_cons,List.take_zero,List.drop_succ_cons,List.drop_zero]
 repeat (go_big_quiet_step (fail))
 refine wpQuiet_nil ?_;refine stage_pure 49 #[.pointer (some ⟨cb,0,none⟩),.int .i64 1] (.int .i64 (idxI (xs 1))) rfl Tryz.call49 rfl rfl (fun w' hm=>cindex_ok (hH.out _ hm) 1 (by omega)) ?_;simp only[Act.put,List.setIfInBounds_toArray,List.set_cons_succ,List.set_cons_zero];refine stage_quiet 1 (by kernel_rfl) ?_;simp only[List.take_succ_cons,List.take_zero,List.drop_succ_cons,List.drop_zero]
 repeat (go_big_quiet_step (fail))
 refine wpQuiet_nil ?_;refine stage_pure 47 #[.pointer (some ⟨cb,0,none⟩),.int .i64 2] (.int .u64 (xs 2)) rfl Tryz.call47 rfl rfl (fun w' hm=>chandle_ok (hH.out _ hm) 2 (by omega)) ?_;simp only[Act.put,List.setIfInBounds_toArray,List.set_cons_succ,List.set_cons_zero];refine stage_quiet 1 (by kernel_rfl) ?_;simp only[List.take_succ_cons,List.take_zero,List.drop_succ_cons,List.drop_zero]
 repeat (go_big_quiet_step (fail))
 refine wpQuiet_nil ?_;refine stage_pure 49 #[.pointer (some ⟨cb,0,none⟩),.int .i64 3] (.int .i64 (idxI (xs 3))) rfl Tryz.call49 rfl rfl (fun w' hm=>cindex_ok (hH.out _ hm) 3 (by omega)) ?_;simp only[Act.put,List.setIfInBounds_toArray,List.set_cons_succ,List.set_cons_zero];refine stage_quiet 1 (by kernel_rfl) ?_;simp only[List.take_succ_cons,List.take_zero,List.drop_succ_cons,List.drop_zero]
 repeat (go_big_quiet_step (fail))
 refine wpQuiet_nil ?_;refine stage_pure 49 #[.pointer (some ⟨cb,0,none⟩),.int .i64 4] (.int .i64 (idxI (xs 4))) rfl Tryz.call49 rfl rfl (fun w' hm=>cindex_ok (hH.out _ hm) 4 (by omega)) ?_;simp only[Act.put,List.setIfInBounds_toArray,List.set_cons_succ,List.set_cons_zero];refine stage_quiet 0 (by kernel_rfl) ?_;simp only[List.take_zero,List.drop_zero]
 repeat (go_big_quiet_step (fail))
 refine wpQuiet_nil ?_;refine stage_pure 53 #[.pointer q,.int .i64 p,.int .u64 (xs 0),.int .i64 (idxI (xs 1)),.int .u64 (xs 2),.int .i64 (idxI (xs 3)),.int .i64 (idxI (xs 4))] (.int .i64 15) rfl Tryz.call53 rfl rfl (fun w' hm=>nulh_copy (hN.out _ hm) p _ _ _ _ _) ?_;simp only[Act.put,List.setIfInBounds_toArray,List.set_cons_succ,List.set_cons_zero];refine stage_quiet 2 (by kernel_rfl) ?_;simp only[List.take_succ_cons,List.take_zero,List.drop_succ_cons,List.drop_zero]
 repeat (go_big_quiet_step (fail))
 refine wpQuiet_nil ?_;refine stage_nil fun w1 hm1=> ?_
 clear k1 hH hN;have hm1:=Lib.hid hm1;go_wp2_with fail;go_ret2;exact⟨rfl,hm1.out⟩
theorem nuldo_8 (hc:CallAt w cb (.pointer q) p (.slice none 0 0) ab 2 cap d cs T xs):Calls Tryz.prog 25 #[.pointer (some ⟨cb,0,none⟩),.int .i64 8] w fun e w'=>e=.returned (.tuple #[.int .u64 0,.int .i64 15])∧Mod [] w w':=by
 have hH:=Lib.hid fun w' (hm:Mod [] w w')=>hc.mod hm
 have hN:=Lib.hid fun w' (hm:Mod [] w w')=>h.mod hm
 have k1:=GW.cells (S:=[]) hc.blk (by simp);clear h hc;go_enter Tryz.func25,Tryz.ntmps25;go_wp2_with fail;refine wp_region_pure (by kernel_rfl) (by kernel_rfl) ?_;refine stage_quiet 9 (by kernel_rfl) ?_;simp only[List.take_succ_cons,List.take_zero,List.drop_succ_cons,List.drop_zero]
 repeat (go_big_quiet_step (fail))
 refine wpQuiet_nil ?_;refine stage_pure 47 #[.pointer (some ⟨cb,0,none⟩),.int .i64 0] (.int .u64 (xs 0)) rfl Tryz.call47 rfl rfl (fun w' hm=>chandle_ok (hH.out _ hm) 0 (by omega)) ?_;simp only[Act.put,List.setIfInBounds_toArray,List.set_cons_succ,List.set_cons_zero];refine stage_quiet 1 (by kernel_rfl) ?_;simp only[List.take_succ_cons,List.take_zero,List.drop_succ_cons,List.drop_zero]
 repeat (go_big_quiet_step (fail))
 refine wpQuiet_nil ?_;refine stage_pure 49 #[.pointer (some ⟨cb,0,none⟩),.int .i64 1] (.int .i64 (idxI (xs 1))) rfl Tryz.call49 rfl rfl (fun w' hm=>cindex_ok (hH.out _ hm) 1 (by omega)) ?_;simp only[Act.put,List.setIfInBounds_toArray,List.set_cons_succ,List.set_cons_zero];refine stage_quiet 0 (by kernel_rfl) ?_;simp only[List.take_zero,List.drop_zero]
 repeat (go_big_quiet_step (fail))
 refine wpQuiet_nil ?_;refine stage_pure 54 #[.pointer q,.int .i64 p,.int .u64 (xs 0),.int .i64 (idxI (xs 1))] (.int .i64 15) rfl Tryz.call54 rfl rfl (fun w' hm=>nulh_transfer (hN.out _ hm) p _ _) ?_;simp only[Act.put,List.setIfInBounds_toArray,List.set_cons_succ,List.set_cons_zero];refine stage_quiet 2 (by kernel_rfl) ?_;simp only[List.take_succ_cons,List.take_zero,List.drop_succ_cons,List.drop_zero]
 repeat (go_big_quiet_step (fail))
 refine wpQuiet_nil ?_;refine stage_nil fun w1 hm1=> ?_
 clear k1 hH hN;have hm1:=Lib.hid hm1;go_wp2_with fail;go_ret2;exact⟨rfl,hm1.out⟩
theorem nuldo_9 (hc:CallAt w cb (.pointer q) p (.slice none 0 0) ab 2 cap d cs T xs):Calls Tryz.prog 25 #[.pointer (some ⟨cb,0,none⟩),.int .i64 9] w fun e w'=>e=.returned (.tuple #[.int .u64 0,.int .i64 15])∧Mod [] w w':=by
 have hH:=Lib.hid fun w' (hm:Mod [] w w')=>hc.mod hm
 have hN:=Lib.hid fun w' (hm:Mod [] w w')=>h.mod hm
 have k1:=GW.cells (S:=[]) hc.blk (by simp);clear h hc;go_enter Tryz.func25,Tryz.ntmps25;go_wp2_with fail;refine wp_region_pure (by kernel_rfl) (by kernel_rfl) ?_;refine stage_quiet 9 (by kernel_rfl) ?_;simp only[List.take_succ_cons,List.take_zero,List.drop_succ_cons,List.drop_zero]
 repeat (go_big_quiet_step (fail))
 refine wpQuiet_nil ?_;refine stage_pure 47 #[.pointer (some ⟨cb,0,none⟩),.int .i64 0] (.int .u64 (xs 0)) rfl Tryz.call47 rfl rfl (fun w' hm=>chandle_ok (hH.out _ hm) 0 (by omega)) ?_;simp only[Act.put,List.setIfInBounds_toArray,List.set_cons_succ,List.set_cons_zero];refine stage_quiet 1 (by kernel_rfl) ?_;simp only[List.take_succ_cons,List.take_zero,List.drop_succ_cons,List.drop_zero]
 repeat (go_big_quiet_step (fail))
 refine wpQuiet_nil ?_;refine stage_pure 49 #[.pointer (some ⟨cb,0,none⟩),.int .i64 1] (.int .i64 (idxI (xs 1))) rfl Tryz.call49 rfl rfl (fun w' hm=>cindex_ok (hH.out _ hm) 1 (by omega)) ?_;simp only[Act.put,List.setIfInBounds_toArray,List.set_cons_succ,List.set_cons_zero];refine stage_quiet 0 (by kernel_rfl) ?_;simp only[List.take_zero,List.drop_zero]
 repeat (go_big_quiet_step (fail))
 refine wpQuiet_nil ?_;refine stage_pure 55 #[.pointer q,.int .i64 p,.int .u64 (xs 0),.int .i64 (idxI (xs 1))] (.int .i64 15) rfl Tryz.call55 rfl rfl (fun w' hm=>nulh_share (hN.out _ hm) p _ _) ?_;simp only[Act.put,List.setIfInBounds_toArray,List.set_cons_succ,List.set_cons_zero];refine stage_quiet 2 (by kernel_rfl) ?_;simp only[List.take_succ_cons,List.take_zero,List.drop_succ_cons,List.drop_zero]
 repeat (go_big_quiet_step (fail))
 refine wpQuiet_nil ?_;refine stage_nil fun w1 hm1=> ?_
 clear k1 hH hN;have hm1:=Lib.hid hm1;go_wp2_with fail;go_ret2;exact⟨rfl,hm1.out⟩
theorem nuldo_10 (hc:CallAt w cb (.pointer q) p (.slice none 0 0) ab 2 cap d cs T xs):Calls Tryz.prog 25 #[.pointer (some ⟨cb,0,none⟩),.int .i64 10] w fun e w'=>e=.returned (.tuple #[.int .u64 0,.int .i64 15])∧Mod [] w w':=by
 have hH:=Lib.hid fun w' (hm:Mod [] w w')=>hc.mod hm
 have hN:=Lib.hid fun w' (hm:Mod [] w w')=>h.mod hm
 have k1:=GW.cells (S:=[]) hc.blk (by simp);clear h hc;go_enter Tryz.func25,Tryz.ntmps25;go_wp2_with fail;refine wp_region_pure (by kernel_rfl) (by kernel_rfl) ?_;refine stage_quiet 9 (by kernel_rfl) ?_;simp only[List.take_succ_cons,List.take_zero,List.drop_succ_cons,List.drop_zero]
 repeat (go_big_quiet_step (fail))
 refine wpQuiet_nil ?_;refine stage_pure 47 #[.pointer (some ⟨cb,0,none⟩),.int .i64 0] (.int .u64 (xs 0)) rfl Tryz.call47 rfl rfl (fun w' hm=>chandle_ok (hH.out _ hm) 0 (by omega)) ?_;simp only[Act.put,List.setIfInBounds_toArray,List.set_cons_succ,List.set_cons_zero];refine stage_quiet 1 (by kernel_rfl) ?_;simp only[List.take_succ_cons,List.take_zero,List.drop_succ_cons,List.drop_zero]
 repeat (go_big_quiet_step (fail))
 refine wpQuiet_nil ?_;refine stage_pure 49 #[.pointer (some ⟨cb,0,none⟩),.int .i64 1] (.int .i64 (idxI (xs 1))) rfl Tryz.call49 rfl rfl (fun w' hm=>cindex_ok (hH.out _ hm) 1 (by omega)) ?_;simp only[Act.put,List.setIfInBounds_toArray,List.set_cons_succ,List.set_cons_zero];refine stage_quiet 0 (by kernel_rfl) ?_;simp only[List.take_zero,List.drop_zero]
 repeat (go_big_quiet_step (fail))
 refine wpQuiet_nil ?_;refine stage_pure 56 #[.pointer q,.int .i64 p,.int .u64 (xs 0),.int .i64 (idxI (xs 1))] (.int .i64 15) rfl Tryz.call56 rfl rfl (fun w' hm=>nulh_lend (hN.out _ hm) p _ _) ?_;simp only[Act.put,List.setIfInBounds_toArray,List.set_cons_succ,List.set_cons_zero];refine stage_quiet 2 (by kernel_rfl) ?_;simp only[List.take_succ_cons,List.take_zero,List.drop_succ_cons,List.drop_zero]
 repeat (go_big_quiet_step (fail))
 refine wpQuiet_nil ?_;refine stage_nil fun w1 hm1=> ?_
 clear k1 hH hN;have hm1:=Lib.hid hm1;go_wp2_with fail;go_ret2;exact⟨rfl,hm1.out⟩
theorem nuldo_11 (hc:CallAt w cb (.pointer q) p (.slice none 0 0) ab 1 cap d cs T xs):Calls Tryz.prog 25 #[.pointer (some ⟨cb,0,none⟩),.int .i64 11] w fun e w'=>e=.returned (.tuple #[.int .u64 0,.int .i64 15])∧Mod [] w w':=by
 have hH:=Lib.hid fun w' (hm:Mod [] w w')=>hc.mod hm
 have hN:=Lib.hid fun w' (hm:Mod [] w w')=>h.mod hm
 have k1:=GW.cells (S:=[]) hc.blk (by simp);clear h hc;go_enter Tryz.func25,Tryz.ntmps25;go_wp2_with fail;refine wp_region_pure (by kernel_rfl) (by kernel_rfl) ?_;refine stage_quiet 9 (by kernel_rfl) ?_;simp only[List.take_succ_cons,List.take_zero,List.drop_succ_cons,List.drop_zero]
 repeat (go_big_quiet_step (fail))
 refine wpQuiet_nil ?_;refine stage_pure 47 #[.pointer (some ⟨cb,0,none⟩),.int .i64 0] (.int .u64 (xs 0)) rfl Tryz.call47 rfl rfl (fun w' hm=>chandle_ok (hH.out _ hm) 0 (by omega)) ?_;simp only[Act.put,List.setIfInBounds_toArray,List.set_cons_succ,List.set_cons_zero];refine stage_quiet 0 (by kernel_rfl) ?_;simp only[List.take_zero,List.drop_zero]
 repeat (go_big_quiet_step (fail))
 refine wpQuiet_nil ?_;refine stage_pure 57 #[.pointer q,.int .i64 p,.int .u64 (xs 0)] (.int .i64 15) rfl Tryz.call57 rfl rfl (fun w' hm=>nulh_release (hN.out _ hm) p _) ?_;simp only[Act.put,List.setIfInBounds_toArray,List.set_cons_succ,List.set_cons_zero];refine stage_quiet 2 (by kernel_rfl) ?_;simp only[List.take_succ_cons,List.take_zero,List.drop_succ_cons,List.drop_zero]
 repeat (go_big_quiet_step (fail))
 refine wpQuiet_nil ?_;refine stage_nil fun w1 hm1=> ?_
 clear k1 hH hN;have hm1:=Lib.hid hm1;go_wp2_with fail;go_ret2;exact⟨rfl,hm1.out⟩
theorem nulc_load (hc:CallAt w cb (.pointer q) p tv ab 3 cap d cs T xs):Calls Tryz.prog 51 #[.pointer (some ⟨cb,0,none⟩)] w fun e w'=>e=.returned (.tuple #[.int .u64 0,.int .i64 15])∧Mod [] w w':=by
 have hH:=Lib.hid fun w' (hm:Mod [] w w')=>hc.mod hm
 have hN:=Lib.hid fun w' (hm:Mod [] w w')=>h.mod hm
 have k1:=GW.cells (S:=[]) hc.blk (by simp);clear h hc;go_enter Tryz.func51,Tryz.ntmps51;go_wp2_with fail;refine wp_region_pure (by kernel_rfl) (by kernel_rfl) ?_;refine stage_quiet 9 (by kernel_rfl) ?_;simp only[List.take_succ_cons,List.take_zero,List.drop_succ_cons,List.drop_zero]
 repeat (go_big_quiet_step (fail))
 refine wpQuiet_nil ?_;refine stage_pure 47 #[.pointer (some ⟨cb,0,none⟩),.int .i64 0] (.int .u64 (xs 0)) rfl Tryz.call47 rfl rfl (fun w' hm=>chandle_ok (hH.out _ hm) 0 (by omega)) ?_;simp only[Act.put,List.setIfInBounds_toArray,List.set_cons_succ,List.set_cons_zero];refine stage_quiet 1 (by kernel_rfl) ?_;simp only[List.take_succ_cons,List.take_zero,List.drop_succ_cons,List.drop_zero]
 repeat (go_big_quiet_step (fail))
 refine wpQuiet_nil ?_;refine stage_pure 49 #[.pointer (some ⟨cb,0,none⟩),.int .i64 1] (.int .i64 (idxI (xs 1))) rfl Tryz.call49 rfl rfl (fun w' hm=>cindex_ok (hH.out _ hm) 1 (by omega)) ?_;simp only[Act.put,List.setIfInBounds_toArray,List.set_cons_succ,List.set_cons_zero];refine stage_quiet 1 (by kernel_rfl) ?_;simp only[List.take_succ_cons,List.take_zero,List.drop_succ_cons,List.drop_zero]
 repeat (go_big_quiet_step (fail))
 refine wpQuiet_nil ?_;refine stage_pure 49 #[.pointer (some ⟨cb,0,none⟩),.int .i64 2] (.int .i64 (idxI (xs 2))) rfl Tryz.call49 rfl rfl (fun w' hm=>cindex_ok (hH.out _ hm) 2 (by omega)) ?_;simp only[Act.put,List.setIfInBounds_toArray,List.set_cons_succ,List.set_cons_zero];refine stage_quiet 0 (by kernel_rfl) ?_;simp only[List.take_zero,List.drop_zero]
 repeat (go_big_quiet_step (fail))
 refine wpQuiet_nil ?_;refine stage_pure 26 #[.pointer q,.int .i64 p,.int .u64 (xs 0),.int .i64 (idxI (xs 1)),.int .i64 (idxI (xs 2))] (.tuple #[.slice none 0 0,.int .i64 15]) rfl Tryz.call26 rfl rfl (fun w' hm=>nulh_load (hN.out _ hm) p _ _ _) ?_;simp only[Act.put,List.setIfInBounds_toArray,List.set_cons_succ,List.set_cons_zero];refine stage_quiet 5 (by kernel_rfl) ?_;simp only[List.take_succ_cons,List.take_zero,List.drop_succ_cons,List.drop_zero]
 repeat (go_big_quiet_step (fail))
 refine wpQuiet_nil ?_;refine stage_nil fun w1 hm1=> ?_
 clear k1 hH hN;go_wp2_with fail;go_loopw [6,29] (fun v i wr=>(v=.int .u64 0∧i=.int .i64 0)∧Mod [] w wr) (fun _ _ _=>0)
 case atStart=>exact⟨⟨rfl,rfl⟩,hm1⟩
 case round=>
  obtain⟨⟨rfl,rfl⟩,hm⟩:=hrel;go_wp2_with fail;go_ret2;exact⟨rfl,hm⟩
theorem nuldo_5 (hc:CallAt w cb (.pointer q) p tv ab 3 cap d cs T xs):Calls Tryz.prog 25 #[.pointer (some ⟨cb,0,none⟩),.int .i64 5] w fun e w'=>e=.returned (.tuple #[.int .u64 0,.int .i64 15])∧Mod [] w w':=by
 have hl:=Lib.hid (nulc_load h hc);clear h hc;go_enter Tryz.func25,Tryz.ntmps25;go_wp2_with fail;refine hl.out.mono ?_;rintro e w1 ⟨rfl,hm⟩;go_wp2_with fail;go_ret2;exact⟨rfl,hm⟩
end
end
end Go.Proofs.YtgfdeiijblakfaaGreat
