/- Types: slices.Equal, slices.Clone, copied; the definition's SameType. -/
import Derived.Test.YtkkjlioigdpacaaLayC
import Derived.Test.YtkkjlioigdpacaaFlds
import Derived.Test.YtkkjlioigdpacaaFlat
import Derived.Test.YtkkjlioigdpacaaMakeT
namespace Go.Proofs.Ytkkjlioigdpacaa
open Go Go.RowKit Go.Stg

theorem take_eq_snoc {α : Type} {l m : List α} {k : Nat} (hl : k < l.length) (hm : k < m.length) (h : l.take k = m.take k) (he : l[k] = m[k]) : l.take (k + 1) = m.take (k + 1) := by
  rw [take_snoc l hl, take_snoc m hm, h, he]
theorem fields_get {w : World} {v : Value} {fs : List Fld} (h : FieldsAt w v fs) {k : Nat} (hk : k < fs.length) : ∃ sb so cap, v = .slice (some ⟨sb, so, none⟩) fs.length cap ∧ sb < w.heap.size ∧ w.cell? ⟨sb, so + k * 2, none⟩ = some (.int .i64 fs[k].1) ∧ w.cell? ⟨sb, so + k * 2 + 1, none⟩ = some (.int .i64 fs[k].2) := by
  rcases h with ⟨_, rfl⟩ | ⟨sb, so, cap, rfl, h2, h3, h4⟩
  · simp at hk
  · exact ⟨sb, so, cap, rfl, h2, (h4 k hk).1, (h4 k hk).2⟩
set_option maxHeartbeats 2000000 in
theorem equal_ok (v v' : Value) (fs fs' : List Fld) (w : World) (h : FieldsAt w v fs) (h' : FieldsAt w v' fs') :
    Calls Try.prog 21 #[v, v'] w fun e w' => e = .returned (.bool (decide (fs = fs'))) ∧ Mod [] w w' := by
  have hln := fun ty w => h.len ty w
  have hln' := fun ty w => h'.len ty w
  have hs := h.small
  have hs' := h'.small
  have hH := Lib.hid h
  have hH' := Lib.hid h'
  obtain ⟨q, hq⟩ : ∃ q, decide (fs = fs') = q := ⟨_, rfl⟩
  rw [hq]
  have hqH := Lib.hid hq
  clear hq h h'
  by_cases hl : fs.length = fs'.length
  · simp only [← hl] at hln'
    have hlH := Lib.hid hl
    clear hl
    go_enter Try.func21, Try.ntmps21
    go_wp2_with fail
    go_loopw [13] (fun i wr => ∃ k : Nat, k ≤ fs.length ∧ i = .int .i64 k ∧ Mod [] w wr ∧ fs.take k = fs'.take k) (fun i _ => fs.length - (intOf i).toNat)
    case atStart => exact ⟨0, by omega, rfl, Mod.refl _ _, by simp⟩
    case round =>
      obtain ⟨k, hk, rfl, hm, ht⟩ := hrel
      have htH := Lib.hid ht
      clear ht
      by_cases hk1 : k < fs.length
      · have hk2 : k < fs'.length := by have := hlH.out; omega
        obtain ⟨sb, so, cap, rfl, g1, a1, a2⟩ := fields_get hH.out hk1
        obtain ⟨sb', so', cap', rfl, g1', a1', a2'⟩ := fields_get hH'.out hk2
        have a1 := (cell_mod hm g1 (by simp)).trans a1
        have a2 := (cell_mod hm g1 (by simp)).trans a2
        have a1' := (cell_mod hm g1' (by simp)).trans a1'
        have a2' := (cell_mod hm g1' (by simp)).trans a2'
        have k1 := GW.cell1 (S := []) a1 (hm.lt g1) (by simp)
        have k2 := GW.cell1 (S := []) a2 (hm.lt g1) (by simp)
        have k3 := GW.cell1 (S := []) a1' (hm.lt g1') (by simp)
        have k4 := GW.cell1 (S := []) a2' (hm.lt g1') (by simp)
        have hne : fs[k] ≠ fs'[k] → fs ≠ fs' := fun h e => h (by subst e; rfl)
        have hneH := Lib.hid hne
        have htk := Lib.hid fun he => take_eq_snoc hk1 hk2 htH.out he
        have hle : fs'.length = fs.length := hlH.out.symm
        have hlen' := Lib.hid hle
        clear a1 a2 a1' a2' hne hle
        generalize fs[k] = f at *
        generalize fs'[k] = f' at *
        obtain ⟨f1, f2⟩ := f
        obtain ⟨f1', f2'⟩ := f'
        have bad : ¬ (f1 = f1' ∧ f2 = f2') → q = false := fun hb => by
          have h1 := hqH.out
          rw [decide_eq_false (hneH.out fun e => hb (by cases e; exact ⟨rfl, rfl⟩))] at h1
          exact h1.symm
        have badH := Lib.hid bad
        clear bad hneH
        rw [hlen'.out] at *
        clear hlen'
        by_cases e1 : f1 = f1'
        · subst e1
          by_cases e2 : f2 = f2'
          · subst e2
            have z1 : (f1 == f1) = true := by simp
            have z2 : (f2 == f2) = true := by simp
            clear badH
            go_wp2_with fail
            refine wp_region_pure (by kernel_rfl) (by kernel_rfl) ?_
            refine stage_quiet 9 (by kernel_rfl) ?_
            simp only [List.take_succ_cons, List.take_zero, List.drop_succ_cons, List.drop_zero]
            repeat (go_big_quiet_step (fail))
            refine wpQuiet_nil ?_
            refine stage_nil fun w7 hm7 => ?_
            clear k1 k2 k3 k4
            go_wp2_with fail
            go_roundw
            case rel => exact ⟨k + 1, by omega, by go_num, hm.nil_then hm7, htk.out (by first | trivial | rfl)⟩
            case measure => simp [intOf]; omega
          · have z1 : (f1 == f1) = true := by simp
            have z2 : (f2 == f2') = false := by simp only [beq_eq_false_iff_ne]; exact e2
            have hb := badH.out (fun h => e2 h.2)
            clear badH e2
            subst hb
            go_wp2_with fail
            refine wp_region_pure (by kernel_rfl) (by kernel_rfl) ?_
            refine stage_quiet 9 (by kernel_rfl) ?_
            simp only [List.take_succ_cons, List.take_zero, List.drop_succ_cons, List.drop_zero]
            repeat (go_big_quiet_step (fail))
            refine wpQuiet_nil ?_
            refine stage_nil fun w7 hm7 => ?_
            clear k1 k2 k3 k4
            go_wp2_with fail
            go_ret
            exact ⟨rfl, hm.nil_then hm7⟩
        · have z1 : (f1 == f1') = false := by simp only [beq_eq_false_iff_ne]; exact e1
          have hb := badH.out (fun h => e1 h.1)
          clear badH e1
          subst hb
          go_wp2_with fail
          refine wp_region_pure (by kernel_rfl) (by kernel_rfl) ?_
          refine stage_quiet 9 (by kernel_rfl) ?_
          simp only [List.take_succ_cons, List.take_zero, List.drop_succ_cons, List.drop_zero]
          repeat (go_big_quiet_step (fail))
          refine wpQuiet_nil ?_
          refine stage_nil fun w7 hm7 => ?_
          clear k1 k2 k3 k4
          go_wp2_with fail
          go_ret
          exact ⟨rfl, hm.nil_then hm7⟩
      · have hb : q = true := by
          rw [← hqH.out, decide_eq_true_eq]
          have h1 := htH.out
          rw [List.take_of_length_le (by omega), List.take_of_length_le (by have := hlH.out; omega)] at h1
          exact h1
        subst hb
        go_wp2_with fail
        go_ret
        exact ⟨rfl, hm⟩
  · have hb : q = false := by
      rw [← hqH.out, decide_eq_false_iff_not]
      exact fun e => hl (by rw [e])
    subst hb
    have z1 : ((fs.length : Int) == (fs'.length : Int)) = false := by simp only [beq_eq_false_iff_ne]; omega
    clear hl
    go_enter Try.func21, Try.ntmps21
    go_wp2_with fail
    go_ret
    exact ⟨rfl, Mod.refl _ _⟩

theorem fcells_oneCell (fs : List Fld) : ∀ u ∈ fcells fs, u.oneCell' = true := by
  intro u hu
  unfold fcells at hu
  rw [List.mem_flatMap] at hu
  obtain ⟨f, _, hu⟩ := hu
  simp at hu
  rcases hu with rfl | rfl <;> rfl
theorem fields_cells {w : World} {sb so cap n : Nat} {fs : List Fld} (h : FieldsAt w (.slice (some ⟨sb, so, none⟩) n cap) fs) : ∀ j u, (fcells fs)[j]? = some u → w.cell? ((⟨sb, so, none⟩ : Addr).add j) = some u := by
  intro j u hu
  rcases h with ⟨h, _⟩ | ⟨sb', so', cap', h, h2, h3, h4⟩
  · simp at h
  · simp at h
    obtain ⟨⟨rfl, rfl⟩, rfl, rfl⟩ := h
    obtain ⟨hj, _⟩ := List.getElem?_eq_some_iff.1 hu
    rw [fcells_length] at hj
    have hk : j / 2 < fs.length := by omega
    obtain ⟨e1, e2⟩ := fcells_at fs (j / 2) hk
    obtain ⟨a1, a2⟩ := h4 (j / 2) hk
    rw [add_at]
    rcases (show j = j / 2 * 2 ∨ j = j / 2 * 2 + 1 by omega) with h | h
    · rw [← h] at e1 a1
      rw [hu] at e1
      rw [a1, Option.some.inj e1]
    · rw [← h] at e2
      rw [show so + j / 2 * 2 + 1 = so + j by omega] at a2
      rw [hu] at e2
      rw [a2, Option.some.inj e2]
/-- A clone: a row of its own. -/
theorem clone_ok (v : Value) (fs : List Fld) (hl : fs.length ≤ 100) (w : World) (h : FieldsAt w v fs) :
    Calls Try.prog 32 #[v] w fun e w' => ∃ v', e = .returned v' ∧ w'.ownsRow w.heap.size 28 2 v' fs.length (fcells fs) ∧ Mod [] w w' := by
  obtain ⟨i0, hi0, hz0, hz1, hz2⟩ := info_parts info_field
  rcases h with ⟨rfl, rfl⟩ | ⟨sb, so, cap, rfl, g2, g3, g4⟩
  · have hnil := fun w => Lib.run_eql_slice_nil (P := Try.prog) w 29 28 none 0 0 0 0 Try.underlying29
    go_enter Try.func32, Try.ntmps32
    go_wp2_with fail
    go_ret
    exact ⟨_, rfl, World.ownsRow_nil _ _ _ _, Mod.refl _ _⟩
  · have hown : (w.alloc (.cells #[] 28 (0, 0))).ownsRow w.heap.size 28 2 (.slice (some ⟨w.heap.size, 0, none⟩) 0 0) 0 [] := World.ownsRow_made w #[] 0 (Nat.le_refl _) (Nat.zero_le _) rfl
    have hmA := (Mod.refl [] w).alloc (.cells #[] 28 (0, 0))
    have hF : FieldsAt (w.alloc (.cells #[] 28 (0, 0))) (.slice (some ⟨sb, so, none⟩) fs.length cap) fs := FieldsAt.mod (.inr ⟨sb, so, cap, rfl, g2, g3, g4⟩) hmA
    have hcs := Lib.hid (fields_cells hF)
    clear g4 hF
    have h63 : 0 + fs.length ≤ maxLen := by unfold maxLen; omega
    have hby : (0 + fs.length) * 16 ≤ 140737488355328 := by omega
    have hfl : (fcells fs).length = fs.length * 2 := fcells_length fs
    have hfl := Lib.hid hfl
    have hnil := fun w => Lib.run_eql_slice_nil (P := Try.prog) w 29 28 (some ⟨sb, so, none⟩) fs.length cap 0 0 Try.underlying29
    go_enter Try.func32, Try.ntmps32
    go_wp2_with (at_builtin; refine wpList_append_row _ rfl _ _ 29 rfl 28 i0 (.agg #[.int .i64 0, .int .i64 0]) 2 16 Try.underlying29 hi0 hz0 hz1 hz2 rfl (by decide) (.slice (some ⟨w.heap.size, 0, none⟩) 0 0) 0 [] rfl (row_base hown (Nat.zero_le _)) ⟨sb, so, none⟩ fs.length cap (fcells fs) rfl hfl.out hcs.out (fcells_oneCell fs) h63 hby ?_; intro v' w1 hown1 hgrow hfr; simp only [Nat.zero_add, List.nil_append] at hown1; have hown1 := Lib.hid hown1; have hgrow := Lib.hid hgrow; have hfr := Lib.hid hfr)
    go_ret
    refine ⟨_, rfl, row_all hown1.out fun g hg => ?_, hmA.grown hgrow.out fun k hk => .inr ?_⟩
    · rcases hfr.out g hg with h | h
      · have h' : some w.heap.size = some g := h
        have := Option.some.inj h'; omega
      · simp at h; omega
    · have hk' : some w.heap.size = some k := hk
      have := Option.some.inj hk'; omega
/-- A copy of a type. -/
theorem copied_ok (len : Int) (v : Value) (fs : List Fld) (hl : fs.length ≤ 100) (w : World) (h : FieldsAt w v fs) :
    Calls Try.prog 23 #[.agg #[.int .i64 len, v]] w fun e w' => ∃ v', e = .returned (.agg #[.int .i64 len, v']) ∧ w'.ownsRow w.heap.size 28 2 v' fs.length (fcells fs) ∧ Mod [] w w' := by
  have q0 := at_alloc_old (o := .cells #[.int .i64 0, .slice none 0 0] 31) (at_alloc w (.cells #[.int .i64 len, v] 31))
  have q1 := at_alloc (w.alloc (.cells #[.int .i64 len, v] 31)) (.cells #[.int .i64 0, .slice none 0 0] 31)
  rw [World.size_alloc] at q1
  have hm0 := ((Mod.refl [] w).alloc (.cells #[.int .i64 len, v] 31)).alloc (.cells #[.int .i64 0, .slice none 0 0] 31)
  have hC := Lib.hid (clone_ok v fs hl _ (h.mod hm0))
  clear h
  go_enter Try.func23, Try.ntmps23
  go_wp2_with fail
  refine hC.out.mono ?_
  rintro e w1 ⟨v', rfl, hrow, hm1⟩
  obtain ⟨va, vn, vc, rfl⟩ := row_slice hrow
  have q0 := hm1.at q0 (by simp)
  have q1 := hm1.at q1 (by simp)
  have hm2 := hm0.nil_then hm1
  have hlt : ∀ x, (Value.slice va vn vc).ownBlock = some x → w.heap.size + 2 ≤ x := fun x hx => by
    have := (hrow.lt x hx).1
    simp at this; omega
  have hrow := Lib.hid (row_base (base' := w.heap.size) hrow (by simp; omega))
  have c0 := cells_of q0
  have f0 := frozen_of q0
  have c1 := cells_of q1
  have f1 := frozen_of q1
  go_wp2_with fail
  have q2 := at_setCell_other (a := ⟨w.heap.size, 1, none⟩) (v := .slice va vn vc) q1 (by show w.heap.size + 1 ≠ w.heap.size; omega)
  have q3 := at_setCell (o := 1) (v := .slice va vn vc) (at_setCell (o := 0) (v := .int .i64 len) q2)
  have hm3 := ((hm2.setCell (p := ⟨w.heap.size, 1, none⟩) (.inr (Nat.le_refl _)) (.slice va vn vc)).setCell (p := ⟨w.heap.size + 1, 0, none⟩) (.inr (by show w.heap.size ≤ w.heap.size + 1; omega)) (.int .i64 len)).setCell (p := ⟨w.heap.size + 1, 1, none⟩) (.inr (by show w.heap.size ≤ w.heap.size + 1; omega)) (.slice va vn vc)
  have hms := (((Mod.refl [w.heap.size, w.heap.size + 1] w1).setCell (p := ⟨w.heap.size, 1, none⟩) (.inl (by simp)) (.slice va vn vc)).setCell (p := ⟨w.heap.size + 1, 0, none⟩) (.inl (by simp)) (.int .i64 len)).setCell (p := ⟨w.heap.size + 1, 1, none⟩) (.inl (by simp)) (.slice va vn vc)
  have hr3 := row_mod hrow.out hms (fun g hg => by have := hlt g hg; simp; omega)
  have cc := cells_of q3
  refine bodyPost_ret (v := .agg #[.int .i64 len, .slice va vn vc]) ?_ rfl ⟨_, rfl, hr3, hm3⟩
  simp [results, Try.results23, go_sem, cc]
set_option maxHeartbeats 2000000 in
theorem rsame_ok (len len' : Int) (v v' : Value) (fs fs' : List Fld) (w : World) (h : FieldsAt w v fs) (h' : FieldsAt w v' fs') :
    Calls Try.prog 15 #[.agg #[.int .i64 len, v], .agg #[.int .i64 len', v']] w fun e w' => e = .returned (.bool (decide (len = len' ∧ fs = fs'))) ∧ Mod [] w w' := by
  have q0 := at_alloc_old (o := .cells #[.int .i64 len', v'] 31) (at_alloc w (.cells #[.int .i64 len, v] 31))
  have q1 := at_alloc (w.alloc (.cells #[.int .i64 len, v] 31)) (.cells #[.int .i64 len', v'] 31)
  rw [World.size_alloc] at q1
  have hm0 := ((Mod.refl [] w).alloc (.cells #[.int .i64 len, v] 31)).alloc (.cells #[.int .i64 len', v'] 31)
  have hln := fun ty w => h.len ty w
  have hln' := fun ty w => h'.len ty w
  have hs := h.small
  have hs' := h'.small
  have hH := Lib.hid h
  have hH' := Lib.hid h'
  obtain ⟨q, hq⟩ : ∃ q, decide (len = len' ∧ fs = fs') = q := ⟨_, rfl⟩
  rw [hq]
  have hqH := Lib.hid hq
  clear hq h h'
  by_cases he : len = len'
  · subst he
    have z0 : (len == len) = true := by simp
    by_cases hl : fs.length = fs'.length
    · simp only [← hl] at hln'
      have hlH := Lib.hid hl
      clear hl
      go_enter Try.func15, Try.ntmps15
      go_wp2_with fail
      generalize (w.alloc (.cells #[.int .i64 len, v] 31)).alloc (.cells #[.int .i64 len, v'] 31) = W at *
      go_loopw [5] (fun i wr => ∃ k : Nat, k ≤ fs.length ∧ i = .int .i64 k ∧ Mod [] W wr ∧ fs.take k = fs'.take k) (fun i _ => fs.length - (intOf i).toNat)
      case atStart => exact ⟨0, by omega, rfl, Mod.refl _ _, by simp⟩
      case round =>
        obtain ⟨k, hk, rfl, hm, ht⟩ := hrel
        have q0 := hm.at q0 (by simp)
        have q1 := hm.at q1 (by simp)
        have hmw := hm0.nil_then hm
        have c0 := cells_of q0
        have c1 := cells_of q1
        have htH := Lib.hid ht
        clear ht
        by_cases hk1 : k < fs.length
        · have hk2 : k < fs'.length := by have := hlH.out; omega
          obtain ⟨sb, so, cap, rfl, g1, a1, a2⟩ := fields_get hH.out hk1
          obtain ⟨sb', so', cap', rfl, g1', a1', a2'⟩ := fields_get hH'.out hk2
          have a1 := (cell_mod hmw g1 (by simp)).trans a1
          have a2 := (cell_mod hmw g1 (by simp)).trans a2
          have a1' := (cell_mod hmw g1' (by simp)).trans a1'
          have a2' := (cell_mod hmw g1' (by simp)).trans a2'
          have k1 := GW.cell1 (S := []) a1 (hmw.lt g1) (by simp)
          have k2 := GW.cell1 (S := []) a2 (hmw.lt g1) (by simp)
          have k3 := GW.cell1 (S := []) a1' (hmw.lt g1') (by simp)
          have k4 := GW.cell1 (S := []) a2' (hmw.lt g1') (by simp)
          have k5 := GW.cells (S := []) q0 (by simp)
          have k6 := GW.cells (S := []) q1 (by simp)
          have hne : fs[k] ≠ fs'[k] → fs ≠ fs' := fun h e => h (by subst e; rfl)
          have hneH := Lib.hid hne
          have htk := Lib.hid fun he => take_eq_snoc hk1 hk2 htH.out he
          have hle : fs'.length = fs.length := hlH.out.symm
          have hlen' := Lib.hid hle
          clear a1 a2 a1' a2' hne hle
          generalize fs[k] = f at *
          generalize fs'[k] = f' at *
          obtain ⟨f1, f2⟩ := f
          obtain ⟨f1', f2'⟩ := f'
          have bad : ¬ (f1 = f1' ∧ f2 = f2') → q = false := fun hb => by
            have h1 := hqH.out
            rw [decide_eq_false (fun hx => hneH.out (fun e => hb (by cases e; exact ⟨rfl, rfl⟩)) hx.2)] at h1
            exact h1.symm
          have badH := Lib.hid bad
          clear bad hneH
          rw [hlen'.out] at *
          clear hlen'
          by_cases e1 : f1 = f1'
          · subst e1
            by_cases e2 : f2 = f2'
            · subst e2
              have z1 : (f1 == f1) = true := by simp
              have z2 : (f2 == f2) = true := by simp
              clear badH
              go_wp2_with fail
              refine wp_region_pure (by kernel_rfl) (by kernel_rfl) ?_
              refine stage_quiet 11 (by kernel_rfl) ?_
              simp only [List.take_succ_cons, List.take_zero, List.drop_succ_cons, List.drop_zero]
              repeat (go_big_quiet_step (fail))
              refine wpQuiet_nil ?_
              refine stage_nil fun w7 hm7 => ?_
              clear k1 k2 k3 k4 k5 k6
              go_wp2_with fail
              go_roundw
              case rel => exact ⟨k + 1, by omega, by go_num, hm.nil_then hm7, htk.out (by first | trivial | rfl)⟩
              case measure => simp [intOf]; omega
            · have z1 : (f1 == f1) = true := by simp
              have z2 : (f2 == f2') = false := by simp only [beq_eq_false_iff_ne]; exact e2
              have hb := badH.out (fun h => e2 h.2)
              clear badH e2
              subst hb
              go_wp2_with fail
              refine wp_region_pure (by kernel_rfl) (by kernel_rfl) ?_
              refine stage_quiet 11 (by kernel_rfl) ?_
              simp only [List.take_succ_cons, List.take_zero, List.drop_succ_cons, List.drop_zero]
              repeat (go_big_quiet_step (fail))
              refine wpQuiet_nil ?_
              refine stage_nil fun w7 hm7 => ?_
              clear k1 k2 k3 k4 k5 k6
              go_wp2_with fail
              go_ret
              exact ⟨rfl, hmw.nil_then hm7⟩
          · have z1 : (f1 == f1') = false := by simp only [beq_eq_false_iff_ne]; exact e1
            have hb := badH.out (fun h => e1 h.1)
            clear badH e1
            subst hb
            go_wp2_with fail
            refine wp_region_pure (by kernel_rfl) (by kernel_rfl) ?_
            refine stage_quiet 11 (by kernel_rfl) ?_
            simp only [List.take_succ_cons, List.take_zero, List.drop_succ_cons, List.drop_zero]
            repeat (go_big_quiet_step (fail))
            refine wpQuiet_nil ?_
            refine stage_nil fun w7 hm7 => ?_
            clear k1 k2 k3 k4 k5 k6
            go_wp2_with fail
            go_ret
            exact ⟨rfl, hmw.nil_then hm7⟩
        · have hb : q = true := by
            rw [← hqH.out, decide_eq_true_eq]
            have h1 := htH.out
            rw [List.take_of_length_le (by omega), List.take_of_length_le (by have := hlH.out; omega)] at h1
            exact ⟨by first | trivial | rfl, h1⟩
          subst hb
          go_wp2_with fail
          go_ret
          exact ⟨rfl, hmw⟩
    · have hb : q = false := by
        rw [← hqH.out, decide_eq_false_iff_not]
        exact fun e => hl (by rw [e.2])
      subst hb
      have z1 : ((fs.length : Int) == (fs'.length : Int)) = false := by simp only [beq_eq_false_iff_ne]; omega
      clear hl
      go_enter Try.func15, Try.ntmps15
      go_wp2_with fail
      go_ret
      exact ⟨rfl, hm0⟩
  · have hb : q = false := by
      rw [← hqH.out, decide_eq_false_iff_not]
      exact fun e => he e.1
    subst hb
    have z1 : (len == len') = false := by simp only [beq_eq_false_iff_ne]; exact he
    clear he
    go_enter Try.func15, Try.ntmps15
    go_wp2_with fail
    go_ret
    exact ⟨rfl, hm0⟩
end Go.Proofs.Ytkkjlioigdpacaa
