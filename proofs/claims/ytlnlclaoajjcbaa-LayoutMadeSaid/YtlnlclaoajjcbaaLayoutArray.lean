/- LayoutArray: the walk of the law. -/
import Derived.Test.YtlnlclaoajjcbaaMakeT
namespace Go.Proofs.Ytlnlclaoajjcbaa
open Go Go.RowKit Go.Stg

theorem arr_ok {len : Int} {f : Fld} (h1 : 1 ≤ len) (h2 : len ≤ 256) (hf : Small f) : errT len [f] = 0 ∧ sizeT len [f] = len * wid f ∧ countT len [f] = len := by
  obtain ⟨e1, e2, e3⟩ := small_good hf
  have hs : sizeT len [f] = len * wid f := by unfold sizeT; rw [if_pos (by omega)]; rfl
  have hm : len * wid f ≤ 256 * 9 := Int.mul_le_mul h2 e3 (by omega) (by omega)
  have he : errT len [f] = 0 := by
    unfold errT
    have hb : ¬ badT len [f] := by
      rintro (⟨h, _⟩ | ⟨_, h⟩)
      · omega
      · simp at h
    have hfe : firstErr [f] = 0 := by simp [firstErr, e1]
    rw [if_neg (by omega), if_neg (by omega), if_neg hb, if_neg (by simp), hfe, if_neg (by simp), hs, if_neg (by omega)]
  exact ⟨he, hs, by unfold countT; rw [if_pos he, if_pos (by omega)]⟩
set_option maxHeartbeats 4000000 in
set_option maxRecDepth 10000 in
theorem array_walk (lv : Value) (xs : List Int) (n i : Int) (n0 : 0 ≤ n) (n1 : n ≤ 255) (i0 : 0 ≤ i) (i1 : i ≤ 255) (w : World) (h : NumsAt w lv xs) :
    Calls Try.prog 8 #[lv, .int .u8 n, .int .u8 i] w fun e w' => e = .returned (.bool true) ∧ Mod [] w w' := by
  have hO := Lib.hid (of_ok lv xs 4 (by omega) w h)
  clear h
  go_enter Try.func8, Try.ntmps8
  go_wp2_with fail
  refine hO.out.mono ?_
  rintro e w1 ⟨b, rfl, hm1, hT1, hb1⟩
  go_wp2_with fail
  refine (field_ok b 0 _ w1 hT1 (by omega)).mono ?_
  rintro e w2 ⟨k, c, rfl, hsm, hm2, hT2⟩
  have hm2 := hm1.then hm2 (fun z hz => .inr (by rw [List.mem_singleton.1 hz]; exact hb1))
  obtain ⟨ge, gw1, gw2⟩ := small_good hsm
  obtain ⟨eA, sA, cA⟩ := arr_ok (len := 1) (by omega) (by omega) hsm
  obtain ⟨eB, sB, cB⟩ := arr_ok (len := 1 + n) (by omega) (by omega) hsm
  clear hT1 hT2 hO hm1 hb1
  go_wp2_with fail
  obtain ⟨W0, e0⟩ : ∃ W', w2.alloc (.cells #[.int .i64 k, .int .i64 c] 36) = W' := ⟨_, rfl⟩
  have s0 : W0.heap.size = w2.heap.size + 1 := by rw [← e0]; simp
  have a0 : W0.heap[w2.heap.size]? = some (.cells #[.int .i64 k, .int .i64 c] 36) := by rw [← e0]; exact at_alloc _ _
  have m0 : Mod [] w2 W0 := by rw [← e0]; exact (Mod.refl _ _).alloc _
  obtain ⟨W1, e1⟩ : ∃ W', W0.alloc (.cells #[.int .i64 k, .int .i64 c] 36) = W' := ⟨_, rfl⟩
  have s1 : W1.heap.size = w2.heap.size + 1 + 1 := by rw [← e1]; simp [s0]
  have a1 : W1.heap[w2.heap.size + 1]? = some (.cells #[.int .i64 k, .int .i64 c] 36) := by rw [← e1, ← s0]; exact at_alloc _ _
  have m1 : Mod [] W0 W1 := by rw [← e1]; exact (Mod.refl _ _).alloc _
  obtain ⟨W2, e2⟩ : ∃ W', W1.alloc (.cells #[.int .i64 1, .slice (some ⟨w2.heap.size + 1, 0, none⟩) 1 1] 24) = W' := ⟨_, rfl⟩
  have s2 : W2.heap.size = w2.heap.size + 1 + 1 + 1 := by rw [← e2]; simp [s1]
  have a2 : W2.heap[w2.heap.size + 1 + 1]? = some (.cells #[.int .i64 1, .slice (some ⟨w2.heap.size + 1, 0, none⟩) 1 1] 24) := by rw [← e2, ← s1]; exact at_alloc _ _
  have m2 : Mod [] W1 W2 := by rw [← e2]; exact (Mod.refl _ _).alloc _
  obtain ⟨W3, e3⟩ : ∃ W', W2.alloc (.cells #[.int .i64 k, .int .i64 c] 36) = W' := ⟨_, rfl⟩
  have s3 : W3.heap.size = w2.heap.size + 1 + 1 + 1 + 1 := by rw [← e3]; simp [s2]
  have a3 : W3.heap[w2.heap.size + 1 + 1 + 1]? = some (.cells #[.int .i64 k, .int .i64 c] 36) := by rw [← e3, ← s2]; exact at_alloc _ _
  have m3 : Mod [] W2 W3 := by rw [← e3]; exact (Mod.refl _ _).alloc _
  obtain ⟨W4, e4⟩ : ∃ W', W3.alloc (.cells #[.int .i64 (1 + n), .slice (some ⟨w2.heap.size + 1 + 1 + 1, 0, none⟩) 1 1] 24) = W' := ⟨_, rfl⟩
  have s4 : W4.heap.size = w2.heap.size + 1 + 1 + 1 + 1 + 1 := by rw [← e4]; simp [s3]
  have a4 : W4.heap[w2.heap.size + 1 + 1 + 1 + 1]? = some (.cells #[.int .i64 (1 + n), .slice (some ⟨w2.heap.size + 1 + 1 + 1, 0, none⟩) 1 1] 24) := by rw [← e4, ← s3]; exact at_alloc _ _
  have m4 : Mod [] W3 W4 := by rw [← e4]; exact (Mod.refl _ _).alloc _
  have a0 := m1.at a0 (by simp)
  have a0 := m2.at a0 (by simp)
  have a0 := m3.at a0 (by simp)
  have a0 := m4.at a0 (by simp)
  have a1 := m2.at a1 (by simp)
  have a1 := m3.at a1 (by simp)
  have a1 := m4.at a1 (by simp)
  have a2 := m3.at a2 (by simp)
  have a2 := m4.at a2 (by simp)
  have a3 := m4.at a3 (by simp)
  have hm : Mod [] w W4 := ((((hm2.nil_then m0).nil_then m1).nil_then m2).nil_then m3).nil_then m4
  rw [e0, e1, e2, e3, e4]
  have f1 := fields_one a1
  have f3 := fields_one a3
  clear e0 e1 e2 e3 e4 m0 m1 m2 m3 m4 s0 s1 s2 s3 s4 a1 a3 hm2
  have v1 : sizeV 1 [(k, c)] = .tuple #[.int .i64 (wid (k, c)), .int .i64 0] := by unfold sizeV; rw [if_pos eA, eA, sA, Int.one_mul]
  have v2 : sizeV (1 + n) [(k, c)] = .tuple #[.int .i64 ((1 + n) * wid (k, c)), .int .i64 0] := by unfold sizeV; rw [if_pos eB, eB, sB]
  have z1 := Lib.hid fun (w' : World) (h : Mod [] W4 w') => sizeF_ok 1 _ _ w' (f1.mod h) (by omega) (by omega)
  have z2 := Lib.hid fun (w' : World) (h : Mod [] W4 w') => sizeF_ok (1 + n) _ _ w' (f3.mod h) (by omega) (by omega)
  have z3 := Lib.hid fun (w' : World) (h : Mod [] W4 w') => place_ok (1 + n) _ _ i w' (f3.mod h) (by omega) (by omega)
  have z4 := Lib.hid fun (w' : World) (h : Mod [] W4 w') => count_ok (1 + n) _ _ w' (f3.mod h) (by omega) (by omega)
  rw [v1] at z1
  rw [v2] at z2
  rw [cB] at z4
  have hA0 : 0 ≤ (1 + n) * wid (k, c) := Int.mul_nonneg (by omega) (by omega)
  have hA1 : (1 + n) * wid (k, c) ≤ 256 * 9 := Int.mul_le_mul (by omega) (by omega) (by omega) (by omega)
  have hB0 : 0 ≤ i * wid (k, c) := Int.mul_nonneg (by omega) (by omega)
  have hB1 : i * wid (k, c) ≤ 255 * 9 := Int.mul_le_mul (by omega) (by omega) (by omega) (by omega)
  have hcm : wid (k, c) * (1 + n) = (1 + n) * wid (k, c) := Int.mul_comm _ _
  clear f1 f3 v1 v2 eA sA cA ge
  by_cases hi : i < 1 + n
  · have hV : placeV (1 + n) [(k, c)] i = .tuple #[.agg #[.int .i64 (i * wid (k, c)), .int .i64 (wid (k, c)), .int .i64 k], .int .i64 0] := by
      unfold placeV placeC placeE
      have t1 : 0 ≤ i ∧ i < countT (1 + n) [(k, c)] := ⟨i0, by rw [cB]; exact hi⟩
      rw [if_pos ⟨eB, t1.1, t1.2⟩, if_pos (show 0 < 1 + n by omega), if_pos eB, if_pos t1]
      rfl
    rw [hV] at z3
    clear hV eB sB cB
    generalize hA : (1 + n) * wid (k, c) = A at *
    generalize hBv : i * wid (k, c) = Bv at *
    generalize hwd : wid (k, c) = wd at *
    clear hA hwd hsm
    have cb2 := cells_of a2
    have cb4 := cells_of a4
    refine (z1.out _ (Mod.refl _ _)).mono ?_
    rintro e w5 ⟨rfl, hm5⟩
    clear cb2 cb4
    have cb4 := cells_of (hm5.at a4 (by simp))
    go_wp2_with fail
    refine (z2.out _ hm5).mono ?_
    rintro e w6 ⟨rfl, hm6⟩
    have hm6 := hm5.nil_then hm6
    clear cb4
    have cb4 := cells_of (hm6.at a4 (by simp))
    go_wp2_with fail
    refine (z3.out _ hm6).mono ?_
    rintro e w7 ⟨rfl, hm7⟩
    have hm7 := hm6.nil_then hm7
    have b0 := at_alloc_old (o := .cells #[.int .i64 Bv, .int .i64 wd, .int .i64 k] 44) (hm7.at a0 (by simp))
    have b4 := at_alloc_old (o := .cells #[.int .i64 Bv, .int .i64 wd, .int .i64 k] 44) (hm7.at a4 (by simp))
    have b5 := at_alloc w7 (.cells #[.int .i64 Bv, .int .i64 wd, .int .i64 k] 44)
    have hm8 := hm7.alloc (.cells #[.int .i64 Bv, .int .i64 wd, .int .i64 k] 44)
    clear cb4
    have cb4 := cells_of b4
    go_wp2_with fail
    generalize w7.alloc (.cells #[.int .i64 Bv, .int .i64 wd, .int .i64 k] 44) = W8 at *
    clear cb4
    have k0 := GW.cells (S := []) b0 (by simp)
    have k4 := GW.cells (S := []) b4 (by simp)
    have k5 := GW.cells (S := []) b5 (by simp)
    refine wp_region_pure (by kernel_rfl) (by kernel_rfl) ?_
    refine stage_quiet 0 (by kernel_rfl) ?_
    simp only [List.take_succ_cons, List.take_zero, List.drop_succ_cons, List.drop_zero]
    repeat (go_big_quiet_step (fail))
    refine wpQuiet_nil ?_
    refine stage_pure 10 _ (.bool true) rfl Try.call10 rfl rfl (fun w' _ => awake_ok w') ?_
    simp only [Act.put, List.setIfInBounds_toArray, List.set_cons_succ, List.set_cons_zero]
    refine stage_quiet 34 (by kernel_rfl) ?_
    simp only [List.take_succ_cons, List.take_zero, List.drop_succ_cons, List.drop_zero]
    repeat (go_big_quiet_step (fail))
    refine wpQuiet_nil ?_
    refine stage_pure 15 _ (.int .i64 (1 + n)) rfl Try.call15 rfl rfl (fun w' h => z4.out w' (hm8.nil_then h)) ?_
    simp only [Act.put, List.setIfInBounds_toArray, List.set_cons_succ, List.set_cons_zero]
    refine stage_quiet 5 (by kernel_rfl) ?_
    simp only [List.take_succ_cons, List.take_zero, List.drop_succ_cons, List.drop_zero]
    repeat (go_big_quiet_step (fail))
    refine wpQuiet_nil ?_
    refine stage_nil fun w9 hm9 => ?_
    go_wp2_with fail
    go_ret
    exact ⟨rfl, (hm.nil_then hm8).nil_then hm9⟩
  · have hV : placeV (1 + n) [(k, c)] i = .tuple #[.agg #[.int .i64 0, .int .i64 0, .int .i64 0], .int .i64 6] := by
      unfold placeV placeC placeE
      have t1 : ¬ (0 ≤ i ∧ i < countT (1 + n) [(k, c)]) := by rw [cB]; omega
      have t2 : ¬ (errT (1 + n) [(k, c)] = 0 ∧ 0 ≤ i ∧ i < countT (1 + n) [(k, c)]) := fun h => t1 h.2
      rw [if_neg t2, if_pos eB, if_neg t1]
    rw [hV] at z3
    clear hV eB sB cB hcm
    generalize (1 + n) * wid (k, c) = A at *
    generalize i * wid (k, c) = Bv at *
    generalize wid (k, c) = wd at *
    clear hsm hB0 hB1
    have cb2 := cells_of a2
    have cb4 := cells_of a4
    refine (z1.out _ (Mod.refl _ _)).mono ?_
    rintro e w5 ⟨rfl, hm5⟩
    clear cb2 cb4
    have cb4 := cells_of (hm5.at a4 (by simp))
    go_wp2_with fail
    refine (z2.out _ hm5).mono ?_
    rintro e w6 ⟨rfl, hm6⟩
    have hm6 := hm5.nil_then hm6
    clear cb4
    have cb4 := cells_of (hm6.at a4 (by simp))
    go_wp2_with fail
    refine (z3.out _ hm6).mono ?_
    rintro e w7 ⟨rfl, hm7⟩
    have hm7 := hm6.nil_then hm7
    have b4 := at_alloc_old (o := .cells #[.int .i64 0, .int .i64 0, .int .i64 0] 44) (hm7.at a4 (by simp))
    have hm8 := hm7.alloc (.cells #[.int .i64 0, .int .i64 0, .int .i64 0] 44)
    clear cb4
    have cb4 := cells_of b4
    go_wp2_with fail
    refine (awake_ok _).mono ?_
    rintro e w9 ⟨rfl, hm9⟩
    go_wp2_with fail
    go_ret
    exact ⟨rfl, (hm.nil_then hm8).nil_then hm9⟩
end Go.Proofs.Ytlnlclaoajjcbaa
