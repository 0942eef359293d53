/- Layouts: the laws' comparison, the example of the chapter. -/
import Derived.Test.YtlnlclaoajjcbaaLayRS
namespace Go.Proofs.Ytlnlclaoajjcbaa
open Go Go.RowKit Go.Stg

theorem placeC_size (len : Int) (fs : List Fld) (i : Int) : ∃ x y z, placeC len fs i = #[.int .i64 x, .int .i64 y, .int .i64 z] := by
  unfold placeC
  split
  · split
    · exact ⟨_, _, _, rfl⟩
    · exact outC_size fs i fs.length
  · exact ⟨_, _, _, rfl⟩
set_option maxHeartbeats 4000000 in
set_option maxRecDepth 10000 in
theorem same_ok (len : Int) (v : Value) (fs : List Fld) (i : Int) (w : World) (h : FieldsAt w v fs) (hn : -9223372036854775808 ≤ len) (hn2 : len ≤ 9223372036854775807) :
    Calls Try.prog 11 #[.agg #[.int .i64 len, v], .int .i64 i] w fun e w' => e = .returned (.bool true) ∧ Mod [] w w' := by
  have hE := Lib.hid fun (w' : World) (hm : Mod [] w w') => check_ok len v fs w' (h.mod hm) hn hn2
  have hC := Lib.hid fun (w' : World) (hm : Mod [] w w') => count_ok len v fs w' (h.mod hm) hn hn2
  have hS := Lib.hid fun (w' : World) (hm : Mod [] w w') => sizeF_ok len v fs w' (h.mod hm) hn hn2
  have hP := Lib.hid fun (w' : World) (hm : Mod [] w w') => place_ok len v fs i w' (h.mod hm) hn hn2
  have hRE := Lib.hid fun (w' : World) (hm : Mod [] w w') => rcheck_ok len v fs w' (h.mod hm) hn hn2
  have hRC := Lib.hid fun (w' : World) (hm : Mod [] w w') => rcount_ok len v fs w' (h.mod hm) hn hn2
  have hRS := Lib.hid fun (w' : World) (hm : Mod [] w w') => rsizeF_ok len v fs w' (h.mod hm) hn hn2
  have hRP := Lib.hid fun (w' : World) (hm : Mod [] w w') => rplace_ok len v fs i w' (h.mod hm) hn hn2
  have hsv : ∃ a b, sizeV len fs = .tuple #[.int .i64 a, .int .i64 b] := ⟨_, _, rfl⟩
  obtain ⟨sa, sb, hsv⟩ := hsv
  have hpv : ∃ x y z b, placeV len fs i = .tuple #[.agg #[.int .i64 x, .int .i64 y, .int .i64 z], .int .i64 b] := by
    obtain ⟨x, y, z, e⟩ := placeC_size len fs i
    exact ⟨x, y, z, _, by unfold placeV; rw [e]⟩
  obtain ⟨px, py, pz, pe, hpv⟩ := hpv
  rw [hsv] at hS hRS
  rw [hpv] at hP hRP
  clear hsv hpv h
  have q0 := at_alloc w (.cells #[.int .i64 len, v] 24)
  have hm0 := (Mod.refl [] w).alloc (.cells #[.int .i64 len, v] 24)
  go_enter Try.func11, Try.ntmps11
  go_wp2_with fail
  refine (hS.out _ hm0).mono ?_
  rintro e w1 ⟨rfl, hm1⟩
  have q0 := hm1.at q0 (by simp)
  have hm0 := hm0.nil_then hm1
  have cb := cells_of q0
  clear hm1
  go_wp2_with fail
  refine (hRS.out _ hm0).mono ?_
  rintro e w2 ⟨rfl, hm2⟩
  have q0 := hm2.at q0 (by simp)
  have hm0 := hm0.nil_then hm2
  clear cb hm2
  have cb := cells_of q0
  go_wp2_with fail
  refine (hP.out _ hm0).mono ?_
  rintro e w3 ⟨rfl, hm3⟩
  have q0 := at_alloc_old (o := .cells #[.int .i64 px, .int .i64 py, .int .i64 pz] 44) (hm3.at q0 (by simp))
  have q1 := at_alloc w3 (.cells #[.int .i64 px, .int .i64 py, .int .i64 pz] 44)
  have hm0 := (hm0.nil_then hm3).alloc (.cells #[.int .i64 px, .int .i64 py, .int .i64 pz] 44)
  clear cb hm3
  have cb := cells_of q0
  go_wp2_with fail
  refine (hRP.out _ hm0).mono ?_
  rintro e w4 ⟨rfl, hm4⟩
  have q0 := at_alloc_old (o := .cells #[.int .i64 px, .int .i64 py, .int .i64 pz] 44) (hm4.at q0 (by simp))
  have q1 := at_alloc_old (o := .cells #[.int .i64 px, .int .i64 py, .int .i64 pz] 44) (hm4.at q1 (by simp))
  have q2 := at_alloc w4 (.cells #[.int .i64 px, .int .i64 py, .int .i64 pz] 44)
  have hm0 := (hm0.nil_then hm4).alloc (.cells #[.int .i64 px, .int .i64 py, .int .i64 pz] 44)
  clear cb hm4
  go_wp2_with fail
  generalize w4.alloc (.cells #[.int .i64 px, .int .i64 py, .int .i64 pz] 44) = W at *
  have k0 := GW.cells (S := []) q0 (by simp)
  have k1 := GW.cells (S := []) q1 (by simp)
  have k2 := GW.cells (S := []) q2 (by simp)

  refine wp_region_pure (by kernel_rfl) (by kernel_rfl) ?_
  refine stage_quiet 1 (by kernel_rfl) ?_
  simp only [List.take_succ_cons, List.take_zero, List.drop_succ_cons, List.drop_zero]
  repeat (go_big_quiet_step (fail))
  refine wpQuiet_nil ?_
  refine stage_pure 20 _ (.int .i64 (errT len fs)) rfl Try.call20 rfl rfl (fun w' h => hE.out w' (hm0.nil_then h)) ?_
  simp only [Act.put, List.setIfInBounds_toArray, List.set_cons_succ, List.set_cons_zero]
  refine stage_quiet 1 (by kernel_rfl) ?_
  simp only [List.take_succ_cons, List.take_zero, List.drop_succ_cons, List.drop_zero]
  repeat (go_big_quiet_step (fail))
  refine wpQuiet_nil ?_
  refine stage_pure 21 _ (.int .i64 (errT len fs)) rfl Try.call21 rfl rfl (fun w' h => hRE.out w' (hm0.nil_then h)) ?_
  simp only [Act.put, List.setIfInBounds_toArray, List.set_cons_succ, List.set_cons_zero]
  refine stage_quiet 3 (by kernel_rfl) ?_
  simp only [List.take_succ_cons, List.take_zero, List.drop_succ_cons, List.drop_zero]
  repeat (go_big_quiet_step (fail))
  refine wpQuiet_nil ?_
  refine stage_pure 15 _ (.int .i64 (countT len fs)) rfl Try.call15 rfl rfl (fun w' h => hC.out w' (hm0.nil_then h)) ?_
  simp only [Act.put, List.setIfInBounds_toArray, List.set_cons_succ, List.set_cons_zero]
  refine stage_quiet 1 (by kernel_rfl) ?_
  simp only [List.take_succ_cons, List.take_zero, List.drop_succ_cons, List.drop_zero]
  repeat (go_big_quiet_step (fail))
  refine wpQuiet_nil ?_
  refine stage_pure 22 _ (.int .i64 (countT len fs)) rfl Try.call22 rfl rfl (fun w' h => hRC.out w' (hm0.nil_then h)) ?_
  simp only [Act.put, List.setIfInBounds_toArray, List.set_cons_succ, List.set_cons_zero]
  refine stage_quiet 23 (by kernel_rfl) ?_
  simp only [List.take_succ_cons, List.take_zero, List.drop_succ_cons, List.drop_zero]
  repeat (go_big_quiet_step (fail))
  refine wpQuiet_nil ?_
  refine stage_nil fun w5 hm5 => ?_
  go_wp2_with fail
  go_ret
  exact ⟨rfl, hm0.nil_then hm5⟩
def exF : List Fld := [(1, 0), (3, 0), (2, 0)]
theorem ex_place : placeV 0 exF 2 = .tuple #[.agg #[.int .i64 8, .int .i64 2, .int .i64 2], .int .i64 0] := by kernel_rfl
theorem ex_size : sizeV 0 exF = .tuple #[.int .i64 12, .int .i64 0] := by kernel_rfl
set_option maxHeartbeats 4000000 in
theorem awake_ok (w : World) : Calls Try.prog 10 #[] w fun e w' => e = .returned (.bool true) ∧ Mod [] w w' := by
  have q0 := at_alloc w (.cells #[.int .i64 1, .int .i64 0, .int .i64 3, .int .i64 0, .int .i64 2, .int .i64 0] 36)
  have hm0 := (Mod.refl [] w).alloc (.cells #[.int .i64 1, .int .i64 0, .int .i64 3, .int .i64 0, .int .i64 2, .int .i64 0] 36)
  have hF : FieldsAt (w.alloc (.cells #[.int .i64 1, .int .i64 0, .int .i64 3, .int .i64 0, .int .i64 2, .int .i64 0] 36)) (.slice (some ⟨w.heap.size, 0, none⟩) 3 3) exF := by
    refine .inr ⟨w.heap.size, 0, 3, rfl, lt_of q0, by simp [exF, maxLen], fun i hi => ?_⟩
    rw [cells_of q0, cells_of q0]
    match i, hi with
    | 0, _ => exact ⟨rfl, rfl⟩
    | 1, _ => exact ⟨rfl, rfl⟩
    | 2, _ => exact ⟨rfl, rfl⟩
    | i + 3, h => exact absurd h (by simp only [exF, List.length_cons, List.length_nil]; omega)
  have hP := Lib.hid fun (w' : World) (hm : Mod [] (w.alloc (.cells #[.int .i64 1, .int .i64 0, .int .i64 3, .int .i64 0, .int .i64 2, .int .i64 0] 36)) w') => place_ok 0 _ exF 2 w' (hF.mod hm) (by omega) (by omega)
  have hS := Lib.hid fun (w' : World) (hm : Mod [] (w.alloc (.cells #[.int .i64 1, .int .i64 0, .int .i64 3, .int .i64 0, .int .i64 2, .int .i64 0] 36)) w') => sizeF_ok 0 _ exF w' (hF.mod hm) (by omega) (by omega)
  rw [ex_place] at hP
  rw [ex_size] at hS
  clear hF
  go_enter Try.func10, Try.ntmps10
  go_wp2_with fail
  have hsz : (w.alloc (.cells #[.int .i64 1, .int .i64 0, .int .i64 3, .int .i64 0, .int .i64 2, .int .i64 0] 36)).heap.size = w.heap.size + 1 := by simp
  generalize w.alloc (.cells #[.int .i64 1, .int .i64 0, .int .i64 3, .int .i64 0, .int .i64 2, .int .i64 0] 36) = W at *
  have r0 := at_alloc W (.cells #[.int .i64 0, .slice (some ⟨w.heap.size, 0, none⟩) 3 3] 24)
  rw [hsz] at r0
  have hm1 := (Mod.refl [] W).alloc (.cells #[.int .i64 0, .slice (some ⟨w.heap.size, 0, none⟩) 3 3] 24)
  refine (hP.out _ hm1).mono ?_
  rintro e w1 ⟨rfl, hm2⟩
  have r0 := at_alloc_old (o := .cells #[.int .i64 8, .int .i64 2, .int .i64 2] 44) (hm2.at r0 (by simp))
  have r1 := at_alloc w1 (.cells #[.int .i64 8, .int .i64 2, .int .i64 2] 44)
  have hm2 := (hm1.nil_then hm2).alloc (.cells #[.int .i64 8, .int .i64 2, .int .i64 2] 44)
  have cb := cells_of r0
  clear hm1
  go_wp2_with fail
  refine (hS.out _ hm2).mono ?_
  rintro e w2 ⟨rfl, hm3⟩
  have r1 := hm3.at r1 (by simp)
  have cb1 := cells_of r1
  have hm3 := hm2.nil_then hm3
  clear cb r0 hm2
  go_wp2_with fail
  go_ret
  exact ⟨rfl, hm0.nil_then hm3⟩
end Go.Proofs.Ytlnlclaoajjcbaa
