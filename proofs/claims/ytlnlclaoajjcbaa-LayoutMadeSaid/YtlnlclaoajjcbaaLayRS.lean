/- Layouts: the definition's Count, Size, Place. -/
import Derived.Test.YtlnlclaoajjcbaaLayRC
namespace Go.Proofs.Ytlnlclaoajjcbaa
open Go Go.RowKit Go.Stg
section
variable (len : Int) (v : Value) (fs : List Fld) (w : World) (h : FieldsAt w v fs) (hn : -9223372036854775808 ≤ len) (hn2 : len ≤ 9223372036854775807)
include h hn hn2
theorem rcount_ok : Calls Try.prog 22 #[.agg #[.int .i64 len, v]] w fun e w' => e = .returned (.int .i64 (countT len fs)) ∧ Mod [] w w' := by
  have q0 := at_alloc w (.cells #[.int .i64 len, v] 24)
  have hm0 := (Mod.refl [] w).alloc (.cells #[.int .i64 len, v] 24)
  have h' := h.mod hm0
  have hln := fun ty w => h.len ty w
  have hE := Lib.hid fun (w' : World) (hm : Mod [] w w') => rcheck_ok len v fs w' (h.mod hm) hn hn2
  clear h
  go_enter Try.func22, Try.ntmps22
  go_wp2_with fail
  refine (hE.out _ hm0).mono ?_
  rintro e w1 ⟨rfl, hm1a⟩
  have q1 := hm1a.at q0 (by simp)
  have h1 := h'.mod hm1a
  have cb := cells_of q1
  have hm1 := hm0.nil_then hm1a
  clear q0 hm0 h' hm1a
  by_cases he : errT len fs = 0
  · rw [he]
    by_cases hp : 0 < len
    · go_wp2_with fail
      go_ret
      refine ⟨?_, hm1⟩
      simp [countT, he, hp]
    · go_wp2_with fail
      go_ret
      refine ⟨?_, hm1⟩
      simp only [countT, if_pos he, if_neg (show ¬ (0 < len) by omega)]
      rfl
  · go_wp2_with fail
    go_ret
    refine ⟨?_, hm1⟩
    simp [countT, he]
theorem rsizeF_ok : Calls Try.prog 18 #[.agg #[.int .i64 len, v]] w fun e w' => e = .returned (sizeV len fs) ∧ Mod [] w w' := by
  have q0 := at_alloc w (.cells #[.int .i64 len, v] 24)
  have hm0 := (Mod.refl [] w).alloc (.cells #[.int .i64 len, v] 24)
  have h' := h.mod hm0
  have hln := fun ty w => h.len ty w
  have hE := Lib.hid fun (w' : World) (hm : Mod [] w w') => rcheck_ok len v fs w' (h.mod hm) hn hn2
  clear h
  go_enter Try.func18, Try.ntmps18
  go_wp2_with fail
  refine (hE.out _ hm0).mono ?_
  rintro e w1 ⟨rfl, hm1a⟩
  have q1 := hm1a.at q0 (by simp)
  have h1 := h'.mod hm1a
  have cb := cells_of q1
  have hm1 := hm0.nil_then hm1a
  clear q0 hm0 h' hm1a
  by_cases he : errT len fs = 0
  · obtain ⟨e1, e2, e3, e4, e5, e6, e7⟩ := errT_zero he
    by_cases hp : 0 < len
    · have hone := e6 hp
      rcases h1 with ⟨_, rfl⟩ | ⟨sb, so, cap, rfl, g2, g3, g4⟩
      · simp at hone
      · have c1 := (g4 0 (by omega)).1
        have c2 := (g4 0 (by omega)).2
        have hgf := good_of (e4 fs[0] (List.getElem_mem (by omega)))
        have hst : sizeT len fs = len * wid fs[0] := by
          unfold sizeT
          rw [if_pos hp, hd_eq hone]
        clear g4 e4 e6 e7
        generalize fs[0] = f at *
        obtain ⟨fk, fc⟩ := f
        simp only [Nat.zero_mul, Nat.add_zero] at c1 c2
        obtain ⟨f1, f2, f3, f4, _⟩ := hgf
        have hmul : len * wid (fk, fc) ≤ 65536 * 65536 := Int.mul_le_mul (by omega) f4 (by omega) (by omega)
        have hmul0 : 0 ≤ len * wid (fk, fc) := Int.mul_nonneg (by omega) (by omega)
        have hcm : wid (fk, fc) * len = len * wid (fk, fc) := Int.mul_comm _ _
        have hw : wrap64 (len * wid (fk, fc)) = len * wid (fk, fc) := by
          generalize len * wid (fk, fc) = z at *
          unfold wrap64
          omega
        have hV : sizeV len fs = .tuple #[.int .i64 (wid (fk, fc) * len), .int .i64 0] := by
          unfold sizeV
          rw [if_pos he, he, hst, hcm]
        have hVH := Lib.hid hV
        have h10 : 0 < fs.length := by omega
        clear hone hst hV hmul hmul0
        rw [he]
        rw [← hcm] at hw
        clear hcm
        go_wp2_with fail
        refine (rwidth_ok fk fc f1 f2 _).mono ?_
        rintro e w2 ⟨rfl, hm2⟩
        have cb := cells_of (hm2.at q1 (by simp))
        have hm3 := hm1.nil_then hm2
        go_wp2_with fail
        go_ret2
        exact ⟨by rw [hVH.out]; show Ending.returned (.tuple #[.int .i64 (wrap64 (wid (fk, fc) * len)), .int .i64 0]) = _; rw [hw], hm3⟩
    · have hl0 : len = 0 := by omega
      subst hl0
      have hs0 : sizeT 0 fs = sizeR fs := by simp [sizeT]
      have hP := Lib.hid (rplaces_ok v fs _ h1 e4 (by omega))
      have hV : sizeV 0 fs = .tuple #[.int .i64 (sizeR fs), .int .i64 0] := by
        unfold sizeV
        rw [if_pos he, he, hs0]
      have hVH := Lib.hid hV
      clear hs0 e4 e6 e7 hV
      rw [he]
      go_wp2_with fail
      refine hP.out.mono ?_
      rintro e w2 ⟨pv, rfl, hm2, _⟩
      go_wp2_with fail
      go_ret2
      exact ⟨by rw [hVH.out]; rfl, hm1.nil_then hm2⟩
  · go_wp2_with fail
    go_ret2
    refine ⟨?_, hm1⟩
    simp [sizeV, he]
end
set_option maxHeartbeats 4000000 in
theorem rplace_ok (len : Int) (v : Value) (fs : List Fld) (i : Int) (w : World) (h : FieldsAt w v fs) (hn : -9223372036854775808 ≤ len) (hn2 : len ≤ 9223372036854775807) :
    Calls Try.prog 19 #[.agg #[.int .i64 len, v], .int .i64 i] w fun e w' => e = .returned (placeV len fs i) ∧ Mod [] w w' := by
  have hln := fun ty w => h.len ty w
  have hE := Lib.hid fun (w' : World) (hm : Mod [] w w') => rcheck_ok len v fs w' (h.mod hm) hn hn2
  have hC := Lib.hid fun (w' : World) (hm : Mod [] w w') => rcount_ok len v fs w' (h.mod hm) hn hn2
  have q0 := at_alloc_old (o := .cells #[.int .i64 0, .int .i64 0, .int .i64 0] 44) (at_alloc w (.cells #[.int .i64 len, v] 24))
  have q1 := at_alloc (w.alloc (.cells #[.int .i64 len, v] 24)) (.cells #[.int .i64 0, .int .i64 0, .int .i64 0] 44)
  rw [World.size_alloc] at q1
  have hm0 := ((Mod.refl [] w).alloc (.cells #[.int .i64 len, v] 24)).alloc (.cells #[.int .i64 0, .int .i64 0, .int .i64 0] 44)
  have h' := h.mod hm0
  clear h
  go_enter Try.func19, Try.ntmps19
  go_wp2_with fail
  refine (hE.out _ hm0).mono ?_
  rintro e w1 ⟨rfl, hm1⟩
  have p0 := hm1.at q0 (by simp)
  have p1 := hm1.at q1 (by simp)
  have h1 := h'.mod hm1
  have cb := cells_of p0
  have cr := cells_of p1
  have fr := frozen_of p1
  have hm1 := hm0.nil_then hm1
  clear q0 q1 hm0 h'
  by_cases he : errT len fs = 0
  · obtain ⟨e1, e2, e3, e4, e5, e6, e7⟩ := errT_zero he
    have hcT : countT len fs = if 0 < len then len else fs.length := by simp [countT, he]
    have hone := Lib.hid e6
    clear e6 e7
    rw [he]
    by_cases hi0 : i < 0
    · have hV : placeV len fs i = .tuple #[.agg #[.int .i64 0, .int .i64 0, .int .i64 0], .int .i64 6] := by
        have t1 : ¬ (0 ≤ i ∧ i < countT len fs) := by omega
        have t2 : ¬ (errT len fs = 0 ∧ 0 ≤ i ∧ i < countT len fs) := fun h => t1 h.2
        unfold placeV placeC placeE
        rw [if_neg t2, if_pos he, if_neg t1]
      go_wp2_with fail
      have rr := at_setCell (o := 2) (v := .int .i64 0) (at_setCell (o := 1) (v := .int .i64 0) (at_setCell (o := 0) (v := .int .i64 0) p1))
      have mm := ((hm1.setCell (p := ⟨w.heap.size + 1, 0, none⟩) (.inr (by show w.heap.size ≤ w.heap.size + 1; omega)) (.int .i64 0)).setCell (p := ⟨w.heap.size + 1, 1, none⟩) (.inr (by show w.heap.size ≤ w.heap.size + 1; omega)) (.int .i64 0)).setCell (p := ⟨w.heap.size + 1, 2, none⟩) (.inr (by show w.heap.size ≤ w.heap.size + 1; omega)) (.int .i64 0)
      have cc := cells_of rr
      refine bodyPost_ret (v := .tuple #[.agg #[.int .i64 0, .int .i64 0, .int .i64 0], .int .i64 6]) ?_ rfl ⟨by first | rfl | rw [hV], mm⟩
      simp [results, Try.results19, go_sem, cc]
    · go_wp2_with fail
      refine (hC.out _ hm1).mono ?_
      rintro e w2 ⟨rfl, hm2⟩
      have p0 := hm2.at p0 (by simp)
      have p1 := hm2.at p1 (by simp)
      have h1 := h1.mod hm2
      have hm2 := hm1.nil_then hm2
      clear hm1 cb cr fr
      have cb := cells_of p0
      have cr := cells_of p1
      have fr := frozen_of p1
      by_cases hi1 : i < countT len fs
      · by_cases hp : 0 < len
        · have hone1 := hone.out hp
          rw [if_pos hp] at hcT
          rcases h1 with ⟨_, rfl⟩ | ⟨sb, so, cap, rfl, g2, g3, g4⟩
          · simp at hone1
          · have c1 := (g4 0 (by omega)).1
            have c2 := (g4 0 (by omega)).2
            have hgf := good_of (e4 fs[0] (List.getElem_mem (by omega)))
            have hV : placeV len fs i = .tuple #[.agg #[.int .i64 (i * wid fs[0]), .int .i64 (wid fs[0]), .int .i64 fs[0].1], .int .i64 0] := by
              have t1 : 0 ≤ i ∧ i < countT len fs := ⟨by omega, hi1⟩
              have t2 : errT len fs = 0 ∧ 0 ≤ i ∧ i < countT len fs := ⟨he, t1⟩
              unfold placeV placeC placeE
              rw [if_pos t2, if_pos hp, if_pos he, if_pos t1, hd_eq hone1]
            clear g4 e4
            generalize fs[0] = f at *
            obtain ⟨fk, fc⟩ := f
            simp only [Nat.zero_mul, Nat.add_zero] at c1 c2
            obtain ⟨f01, f02, f1, f2, _⟩ := hgf
            have hmul : i * wid (fk, fc) ≤ 65536 * 65536 := Int.mul_le_mul (by omega) f2 (by omega) (by omega)
            have hmul0 : 0 ≤ i * wid (fk, fc) := Int.mul_nonneg (by omega) (by omega)
            have hw : wrap64 (i * wid (fk, fc)) = i * wid (fk, fc) := by
              generalize i * wid (fk, fc) = z at *
              unfold wrap64
              omega
            rw [hcT]
            rw [hcT] at hi1
            clear hmul hmul0
            go_wp2_with fail
            refine (rwidth_ok fk fc f01 f02 _).mono ?_
            rintro e w3 ⟨rfl, hm3⟩
            have p0 := hm3.at p0 (by simp)
            have p1 := hm3.at p1 (by simp)
            have c1 := (cell_mod hm3 g2 (by simp)).trans c1
            have hm3 := hm2.nil_then hm3
            clear hm2 cb cr fr c2
            have cb := cells_of p0
            have cr := cells_of p1
            have fr := frozen_of p1
            go_wp2_with fail
            have rr := at_setCell (o := 2) (v := .int .i64 fk) (at_setCell (o := 1) (v := .int .i64 (wid (fk, fc))) (at_setCell (o := 0) (v := .int .i64 (i * wid (fk, fc))) p1))
            have mm := ((hm3.setCell (p := ⟨w.heap.size + 1, 0, none⟩) (.inr (by show w.heap.size ≤ w.heap.size + 1; omega)) (.int .i64 (i * wid (fk, fc)))).setCell (p := ⟨w.heap.size + 1, 1, none⟩) (.inr (by show w.heap.size ≤ w.heap.size + 1; omega)) (.int .i64 (wid (fk, fc)))).setCell (p := ⟨w.heap.size + 1, 2, none⟩) (.inr (by show w.heap.size ≤ w.heap.size + 1; omega)) (.int .i64 fk)
            have cc := cells_of rr
            refine bodyPost_ret (v := .tuple #[.agg #[.int .i64 (i * wid (fk, fc)), .int .i64 (wid (fk, fc)), .int .i64 fk], .int .i64 0]) ?_ rfl ⟨by first | rfl | rw [hV], mm⟩
            simp [results, Try.results19, go_sem, cc]
        · rw [if_neg hp] at hcT
          have hl0 : len = 0 := by omega
          subst hl0
          obtain ⟨j, rfl⟩ := Int.eq_ofNat_of_zero_le (show 0 ≤ i by omega)
          rw [hcT] at hi1
          have hj : j < fs.length := by omega
          have hP := Lib.hid (rplaces_ok v fs _ h1 e4 (by omega))
          obtain ⟨x, y, z0, ho⟩ := outC_size fs j (j + 1)
          have hV : placeV 0 fs j = .tuple #[.agg #[.int .i64 x, .int .i64 y, .int .i64 z0], .int .i64 0] := by
            have t1 : 0 ≤ (j : Int) ∧ (j : Int) < countT 0 fs := ⟨by omega, by rw [hcT]; exact hi1⟩
            have t2 : errT 0 fs = 0 ∧ 0 ≤ (j : Int) ∧ (j : Int) < countT 0 fs := ⟨he, t1⟩
            unfold placeV placeC placeE
            rw [if_pos t2, if_neg hp, if_pos he, if_pos t1, outC_le, ho]
          have hVH := Lib.hid hV
          have hoH := Lib.hid ho
          clear e4 ho hV
          rw [hcT]
          clear hcT
          go_wp2_with fail
          refine hP.out.mono ?_
          rintro e w3 ⟨pv, rfl, hm3, hrow⟩
          clear hP
          obtain ⟨g, cap, rfl, _, hgl⟩ := row_pos hrow (by omega)
          have d0 := (hrow.cellAt (j * 3 + 0) (by omega)).trans (pcells_get fs fs.length j 0 hj (by omega))
          have d1 := (hrow.cellAt (j * 3 + 1) (by omega)).trans (pcells_get fs fs.length j 1 hj (by omega))
          have d2 := (hrow.cellAt (j * 3 + 2) (by omega)).trans (pcells_get fs fs.length j 2 hj (by omega))
          rw [hoH.out] at d0 d1 d2
          simp at d0 d1 d2
          have p1 := hm3.at p1 (by simp)
          have hm4 := hm2.nil_then hm3
          have cr := cells_of p1
          have fr := frozen_of p1
          clear p0 hm3
          go_wp2_with fail
          have hV := hVH.out
          have rr := at_setCell (o := 2) (v := .int .i64 z0) (at_setCell (o := 1) (v := .int .i64 y) (at_setCell (o := 0) (v := .int .i64 x) p1))
          have mm := ((hm4.setCell (p := ⟨w.heap.size + 1, 0, none⟩) (.inr (by show w.heap.size ≤ w.heap.size + 1; omega)) (.int .i64 x)).setCell (p := ⟨w.heap.size + 1, 1, none⟩) (.inr (by show w.heap.size ≤ w.heap.size + 1; omega)) (.int .i64 y)).setCell (p := ⟨w.heap.size + 1, 2, none⟩) (.inr (by show w.heap.size ≤ w.heap.size + 1; omega)) (.int .i64 z0)
          have cc := cells_of rr
          refine bodyPost_ret (v := .tuple #[.agg #[.int .i64 x, .int .i64 y, .int .i64 z0], .int .i64 0]) ?_ rfl ⟨by first | rfl | rw [hV], mm⟩
          simp [results, Try.results19, go_sem, cc]
      · have hV : placeV len fs i = .tuple #[.agg #[.int .i64 0, .int .i64 0, .int .i64 0], .int .i64 6] := by
          have t1 : ¬ (0 ≤ i ∧ i < countT len fs) := by omega
          have t2 : ¬ (errT len fs = 0 ∧ 0 ≤ i ∧ i < countT len fs) := fun h => t1 h.2
          unfold placeV placeC placeE
          rw [if_neg t2, if_pos he, if_neg t1]
        clear hcT
        go_wp2_with fail
        have rr := at_setCell (o := 2) (v := .int .i64 0) (at_setCell (o := 1) (v := .int .i64 0) (at_setCell (o := 0) (v := .int .i64 0) p1))
        have mm := ((hm2.setCell (p := ⟨w.heap.size + 1, 0, none⟩) (.inr (by show w.heap.size ≤ w.heap.size + 1; omega)) (.int .i64 0)).setCell (p := ⟨w.heap.size + 1, 1, none⟩) (.inr (by show w.heap.size ≤ w.heap.size + 1; omega)) (.int .i64 0)).setCell (p := ⟨w.heap.size + 1, 2, none⟩) (.inr (by show w.heap.size ≤ w.heap.size + 1; omega)) (.int .i64 0)
        have cc := cells_of rr
        refine bodyPost_ret (v := .tuple #[.agg #[.int .i64 0, .int .i64 0, .int .i64 0], .int .i64 6]) ?_ rfl ⟨by first | rfl | rw [hV], mm⟩
        simp [results, Try.results19, go_sem, cc]
  · have hV : placeV len fs i = .tuple #[.agg #[.int .i64 0, .int .i64 0, .int .i64 0], .int .i64 (errT len fs)] := by
      have t2 : ¬ (errT len fs = 0 ∧ 0 ≤ i ∧ i < countT len fs) := fun h => he h.1
      unfold placeV placeC placeE
      rw [if_neg t2, if_neg he]
    go_wp2_with fail
    have rr := at_setCell (o := 2) (v := .int .i64 0) (at_setCell (o := 1) (v := .int .i64 0) (at_setCell (o := 0) (v := .int .i64 0) p1))
    have mm := ((hm1.setCell (p := ⟨w.heap.size + 1, 0, none⟩) (.inr (by show w.heap.size ≤ w.heap.size + 1; omega)) (.int .i64 0)).setCell (p := ⟨w.heap.size + 1, 1, none⟩) (.inr (by show w.heap.size ≤ w.heap.size + 1; omega)) (.int .i64 0)).setCell (p := ⟨w.heap.size + 1, 2, none⟩) (.inr (by show w.heap.size ≤ w.heap.size + 1; omega)) (.int .i64 0)
    have cc := cells_of rr
    refine bodyPost_ret (v := .tuple #[.agg #[.int .i64 0, .int .i64 0, .int .i64 0], .int .i64 (errT len fs)]) ?_ rfl ⟨by first | rfl | rw [hV], mm⟩
    simp [results, Try.results19, go_sem, cc]
end Go.Proofs.Ytlnlclaoajjcbaa
