/- Borrows: the definition's ledger: what is read of it, and without. -/
import Derived.Test.YtappkiiihnaegaaBRow
import Derived.Test.YtappkiiihnaegaaStageX
namespace Go.Proofs.Ytappkiiihnaegaa
open Go Go.RowKit Go.Stg

theorem getB_none_take {L : List Bor} {o h : Int} {xo xh xm xc : Int} {k : Nat} (hs : L.take (k + 1) = L.take k ++ [((xo, xh), (xm, xc))]) (hn : getB (L.take k) (o, h) = none) (he : ¬ (xo = o ∧ xh = h)) : getB (L.take (k + 1)) (o, h) = none := by
  unfold getB at *
  rw [hs, List.find?_append, hn, Option.none_or, List.find?_cons_of_neg (by simpa using he)]
  rfl
theorem getB_here {L : List Bor} {xo xh xm xc : Int} {k : Nat} (hs : L.take (k + 1) = L.take k ++ [((xo, xh), (xm, xc))]) (hn : getB (L.take k) (xo, xh) = none) : getB L (xo, xh) = some ((xo, xh), (xm, xc)) := by
  unfold getB at *
  rw [← List.take_append_drop (k + 1) L, hs, List.append_assoc, List.find?_append, hn, Option.none_or, List.cons_append, List.find?_cons_of_pos (by simp)]
section
variable {w : World} {rb : Nat} {v : Value} {L : List Bor} (hb : w.heap[rb]? = some (.cells #[v] 38 (0, 0))) (hr : w.ownsRow 0 25 4 v L.length (flat bcell L)) (hl : L.length ≤ 1000000)
include hb hr hl
set_option maxHeartbeats 800000 in
theorem rof_ok (o : Int) : Calls Try.prog 36 #[.pointer (some ⟨rb, 0, none⟩), .int .i64 o] w fun e w' => ∃ u, e = .returned u ∧ w'.ownsRow w.heap.size 25 4 u (ofO L o).length (flat bcell (ofO L o)) ∧ Mod [] w w' := by
  obtain ⟨i5, hi5, hz0, hz1, hz2⟩ := info_parts info_bor
  have hln := fun ty w' => row_len (ty := ty) Try.underlying36 hr w'
  have hbH := Lib.hid hb
  have hrH := Lib.hid hr
  clear hb hr
  unfold ofO
  go_enter Try.func36, Try.ntmps36
  go_wp2_with fail
  go_loopw [6, 5] (fun i ov wr => ∃ k : Nat, k ≤ L.length ∧ i = .int .i64 k ∧ Mod [] w wr ∧ wr.ownsRow w.heap.size 25 4 ov ((L.take k).filter fun b => decide (b.1.1 = o)).length (flat bcell ((L.take k).filter fun b => decide (b.1.1 = o)))) (fun i _ _ => L.length - (intOf i).toNat)
  case atStart => exact ⟨0, by omega, rfl, Mod.refl _ _, World.ownsRow_nil _ _ _ _⟩
  case round =>
    obtain ⟨k, hk, rfl, hm, ho⟩ := hrel
    have hcb := cells_of (hm.at hbH.out (by simp))
    have hoH := Lib.hid ho
    have hmH := Lib.hid hm
    have hrow := row_mod hrH.out hm (by simp)
    clear hm ho
    by_cases hlt : k < L.length
    · obtain ⟨g, cap, rfl, _, hg, xo, xh, xm, xc, hs, _, c0, c1, c2, c3⟩ := bor_cells hrow rfl hlt
      have hsH := Lib.hid hs
      clear hs hrow
      by_cases he : xo = o
      · subst he
        have z : (xo == xo) = true := by simp
        have hY := filt_yes hsH.out (p := (fun b => decide (b.1.1 = xo))) (by simp_all)
        have hfl := filt_len L k (fun b => decide (b.1.1 = xo))
        have ho := hoH.out
        generalize (L.take k).filter (fun b => decide (b.1.1 = xo)) = M at hY hfl ho
        have hY := Lib.hid hY
        have ho := Lib.hid ho
        have hb1 : M.length + 1 ≤ maxLen := by unfold maxLen; omega
        have hb2 : (M.length + 1) * 32 ≤ 140737488355328 := by omega
        have hnwH := Lib.hid (cellsE wr (bcell ((xo, xh), (xm, xc))) 25 #[.int .i64 xo, .int .i64 xh, .int .i64 xm, .int .i64 xc] rfl)
        clear hfl hoH
        go_wp2_with (at_builtin; refine wpList_append_row _ rfl _ _ 36 rfl 25 i5 (bv b0) 4 32 Try.underlying36 hi5 hz0 hz1 hz2 rfl (by decide) u5 M.length _ rfl ((row_base ho.out (Nat.zero_le _)).alloc _) ⟨wr.heap.size, 0, none⟩ 1 1 (bcell ((xo, xh), (xm, xc))) rfl rfl hnwH.out (by simp [bcell, Value.oneCell']) hb1 hb2 ?_; intro ov2 w5 hown hgrow hfr; obtain ⟨g5, c5, rfl, _, _⟩ := row_pos hown (by omega); have hownH := Lib.hid hown; have hgrowH := Lib.hid hgrow; have hfrH := Lib.hid hfr; clear hown hgrow hfr)
        go_roundw
        case rel =>
          refine ⟨k + 1, by omega, by go_num, (hmH.out.alloc _).grown hgrowH.out (fun y hy => .inr (ho.out.lt y hy).1), ?_⟩
          rw [hY.out, flat_append, flat_one, List.length_append]
          refine row_all hownH.out fun y hy => ?_
          have hw := hmH.out.size
          rcases hfrH.out y hy with h | h
          · exact (ho.out.lt y h).1
          · simp at h; omega
        case measure => simp [intOf]; omega
      · have z : (xo == o) = false := by simpa using he
        have hN := Lib.hid (filt_no hsH.out (p := (fun b => decide (b.1.1 = o))) (by simp_all))
        go_wp2_with fail
        go_roundw
        case rel => exact ⟨k + 1, by omega, by go_num, hmH.out, by rw [hN.out]; exact hoH.out⟩
        case measure => simp [intOf]; omega
    · obtain rfl : k = L.length := by omega
      clear hrow
      have hfin := hoH.out
      rw [List.take_length] at hfin
      have hfinH := Lib.hid hfin
      clear hfin
      obtain ⟨oa, ol, oc, rfl⟩ : ∃ a l c, u5 = .slice a l c := by
        rcases row_cases hfinH.out with ⟨rfl, _⟩ | ⟨_, _, rfl, _⟩ <;> exact ⟨_, _, _, rfl⟩
      go_wp2_with fail
      go_ret
      exact ⟨_, rfl, hfinH.out, hmH.out⟩
set_option maxHeartbeats 800000 in
theorem rwithout_ok (o h : Int) : Calls Try.prog 39 #[.pointer (some ⟨rb, 0, none⟩), .int .i64 o, .int .i64 h] w fun e w' => ∃ u, e = .returned u ∧ w'.ownsRow w.heap.size 25 4 u (without L (o, h)).length (flat bcell (without L (o, h))) ∧ Mod [] w w' := by
  obtain ⟨i5, hi5, hz0, hz1, hz2⟩ := info_parts info_bor
  have hln := fun ty w' => row_len (ty := ty) Try.underlying36 hr w'
  have hbH := Lib.hid hb
  have hrH := Lib.hid hr
  clear hb hr
  unfold without
  go_enter Try.func39, Try.ntmps39
  go_wp2_with fail
  go_loopw [8, 7] (fun i ov wr => ∃ k : Nat, k ≤ L.length ∧ i = .int .i64 k ∧ Mod [] w wr ∧ wr.ownsRow w.heap.size 25 4 ov ((L.take k).filter fun b => decide (b.1 ≠ (o, h))).length (flat bcell ((L.take k).filter fun b => decide (b.1 ≠ (o, h))))) (fun i _ _ => L.length - (intOf i).toNat)
  case atStart => exact ⟨0, by omega, rfl, Mod.refl _ _, World.ownsRow_nil _ _ _ _⟩
  case round =>
    obtain ⟨k, hk, rfl, hm, ho⟩ := hrel
    have hcb := cells_of (hm.at hbH.out (by simp))
    have hoH := Lib.hid ho
    have hmH := Lib.hid hm
    have hrow := row_mod hrH.out hm (by simp)
    clear hm ho
    by_cases hlt : k < L.length
    · obtain ⟨g, cap, rfl, _, hg, xo, xh, xm, xc, hs, _, c0, c1, c2, c3⟩ := bor_cells hrow rfl hlt
      have hsH := Lib.hid hs
      clear hs hrow
      by_cases he : xo = o
      · subst he
        have z : (xo != xo) = false := by simp
        by_cases he2 : xh = h
        · subst he2
          have z : (xh != xh) = false := by simp
          have hN := Lib.hid (filt_no hsH.out (p := (fun b => decide (b.1 ≠ (xo, xh)))) (by simp_all))
          go_wp2_with fail
          go_roundw
          case rel => exact ⟨k + 1, by omega, by go_num, hmH.out, by rw [hN.out]; exact hoH.out⟩
          case measure => simp [intOf]; omega
        · have z2 : (xh != h) = true := by simpa using he2
          have hY := filt_yes hsH.out (p := (fun b => decide (b.1 ≠ (xo, h)))) (by simp_all)
          have hfl := filt_len L k (fun b => decide (b.1 ≠ (xo, h)))
          have ho := hoH.out
          generalize (L.take k).filter (fun b => decide (b.1 ≠ (xo, h))) = M at hY hfl ho
          have hY := Lib.hid hY
          have ho := Lib.hid ho
          have hb1 : M.length + 1 ≤ maxLen := by unfold maxLen; omega
          have hb2 : (M.length + 1) * 32 ≤ 140737488355328 := by omega
          have hnwH := Lib.hid (cellsE wr (bcell ((xo, xh), (xm, xc))) 25 #[.int .i64 xo, .int .i64 xh, .int .i64 xm, .int .i64 xc] rfl)
          clear hfl hoH
          go_wp2_with (at_builtin; refine wpList_append_row _ rfl _ _ 36 rfl 25 i5 (bv b0) 4 32 Try.underlying36 hi5 hz0 hz1 hz2 rfl (by decide) u7 M.length _ rfl ((row_base ho.out (Nat.zero_le _)).alloc _) ⟨wr.heap.size, 0, none⟩ 1 1 (bcell ((xo, xh), (xm, xc))) rfl rfl hnwH.out (by simp [bcell, Value.oneCell']) hb1 hb2 ?_; intro ov2 w5 hown hgrow hfr; obtain ⟨g5, c5, rfl, _, _⟩ := row_pos hown (by omega); have hownH := Lib.hid hown; have hgrowH := Lib.hid hgrow; have hfrH := Lib.hid hfr; clear hown hgrow hfr)
          go_roundw
          case rel =>
            refine ⟨k + 1, by omega, by go_num, (hmH.out.alloc _).grown hgrowH.out (fun y hy => .inr (ho.out.lt y hy).1), ?_⟩
            rw [hY.out, flat_append, flat_one, List.length_append]
            refine row_all hownH.out fun y hy => ?_
            have hw := hmH.out.size
            rcases hfrH.out y hy with h | h
            · exact (ho.out.lt y h).1
            · simp at h; omega
          case measure => simp [intOf]; omega
      · have z : (xo != o) = true := by simpa using he
        have hY := filt_yes hsH.out (p := (fun b => decide (b.1 ≠ (o, h)))) (by simp_all)
        have hfl := filt_len L k (fun b => decide (b.1 ≠ (o, h)))
        have ho := hoH.out
        generalize (L.take k).filter (fun b => decide (b.1 ≠ (o, h))) = M at hY hfl ho
        have hY := Lib.hid hY
        have ho := Lib.hid ho
        have hb1 : M.length + 1 ≤ maxLen := by unfold maxLen; omega
        have hb2 : (M.length + 1) * 32 ≤ 140737488355328 := by omega
        have hnwH := Lib.hid (cellsE wr (bcell ((xo, xh), (xm, xc))) 25 #[.int .i64 xo, .int .i64 xh, .int .i64 xm, .int .i64 xc] rfl)
        clear hfl hoH
        go_wp2_with (at_builtin; refine wpList_append_row _ rfl _ _ 36 rfl 25 i5 (bv b0) 4 32 Try.underlying36 hi5 hz0 hz1 hz2 rfl (by decide) u7 M.length _ rfl ((row_base ho.out (Nat.zero_le _)).alloc _) ⟨wr.heap.size, 0, none⟩ 1 1 (bcell ((xo, xh), (xm, xc))) rfl rfl hnwH.out (by simp [bcell, Value.oneCell']) hb1 hb2 ?_; intro ov2 w5 hown hgrow hfr; obtain ⟨g5, c5, rfl, _, _⟩ := row_pos hown (by omega); have hownH := Lib.hid hown; have hgrowH := Lib.hid hgrow; have hfrH := Lib.hid hfr; clear hown hgrow hfr)
        go_roundw
        case rel =>
          refine ⟨k + 1, by omega, by go_num, (hmH.out.alloc _).grown hgrowH.out (fun y hy => .inr (ho.out.lt y hy).1), ?_⟩
          rw [hY.out, flat_append, flat_one, List.length_append]
          refine row_all hownH.out fun y hy => ?_
          have hw := hmH.out.size
          rcases hfrH.out y hy with h | h
          · exact (ho.out.lt y h).1
          · simp at h; omega
        case measure => simp [intOf]; omega
    · obtain rfl : k = L.length := by omega
      clear hrow
      have hfin := hoH.out
      rw [List.take_length] at hfin
      have hfinH := Lib.hid hfin
      clear hfin
      obtain ⟨oa, ol, oc, rfl⟩ : ∃ a l c, u7 = .slice a l c := by
        rcases row_cases hfinH.out with ⟨rfl, _⟩ | ⟨_, _, rfl, _⟩ <;> exact ⟨_, _, _, rfl⟩
      go_wp2_with fail
      go_ret
      exact ⟨_, rfl, hfinH.out, hmH.out⟩
set_option maxHeartbeats 800000 in
theorem rheld_ok (h : Int) : Calls Try.prog 37 #[.pointer (some ⟨rb, 0, none⟩), .int .i64 h] w fun e w' => e = .returned (.int .i64 ((heldH L h).length : Nat)) ∧ Mod [] w w' := by
  obtain ⟨i5, hi5, hz0, hz1, hz2⟩ := info_parts info_bor
  have hln := fun ty w' => row_len (ty := ty) Try.underlying36 hr w'
  have hbH := Lib.hid hb
  have hrH := Lib.hid hr
  clear hb hr
  unfold heldH
  go_enter Try.func37, Try.ntmps37
  go_wp2_with fail
  go_loopw [6, 5] (fun i ov wr => ∃ k : Nat, k ≤ L.length ∧ i = .int .i64 k ∧ Mod [] w wr ∧ ov = .int .i64 ((((L.take k).filter fun b => decide (b.1.2 = h)).length : Nat) : Int)) (fun i _ _ => L.length - (intOf i).toNat)
  case atStart => exact ⟨0, by omega, rfl, Mod.refl _ _, rfl⟩
  case round =>
    obtain ⟨k, hk, rfl, hm, ho⟩ := hrel
    have hcb := cells_of (hm.at hbH.out (by simp))
    have hoH := Lib.hid ho
    have hmH := Lib.hid hm
    have hrow := row_mod hrH.out hm (by simp)
    clear hm ho
    obtain rfl := hoH.out
    clear hoH
    have hfl := filt_len L k (fun b => decide (b.1.2 = h))
    by_cases hlt : k < L.length
    · obtain ⟨g, cap, rfl, _, hg, xo, xh, xm, xc, hs, _, c0, c1, c2, c3⟩ := bor_cells hrow rfl hlt
      have hsH := Lib.hid hs
      clear hs hrow
      by_cases he : xh = h
      · subst he
        have z : (xh == xh) = true := by simp
        have hY := Lib.hid (filt_yes hsH.out (p := fun b => decide (b.1.2 = xh)) (by simp_all))
        generalize ((L.take k).filter fun b => decide (b.1.2 = xh)) = M at *
        go_wp2_with fail
        go_roundw
        case rel => exact ⟨k + 1, by omega, by go_num, hmH.out, by rw [hY.out, List.length_append]; go_num⟩
        case measure => simp [intOf]; omega
      · have z : (xh == h) = false := by simpa using he
        have hN := Lib.hid (filt_no hsH.out (p := fun b => decide (b.1.2 = h)) (by simp_all))
        generalize ((L.take k).filter fun b => decide (b.1.2 = h)) = M at *
        go_wp2_with fail
        go_roundw
        case rel => exact ⟨k + 1, by omega, by go_num, hmH.out, by rw [hN.out]⟩
        case measure => simp [intOf]; omega
    · obtain rfl : k = L.length := by omega
      rw [List.take_length]
      clear hrow
      go_wp2_with fail
      go_ret
      exact ⟨rfl, hmH.out⟩
set_option maxHeartbeats 800000 in
theorem rholds_ok (o h : Int) : Calls Try.prog 35 #[.pointer (some ⟨rb, 0, none⟩), .int .i64 o, .int .i64 h] w fun e w' => e = .returned (foundV (getB L (o, h))) ∧ Mod [] w w' := by
  obtain ⟨G, hG⟩ : ∃ G, getB L (o, h) = G := ⟨_, rfl⟩
  rw [hG]
  have hGH := Lib.hid hG
  clear hG
  have h0b := at_alloc w (.cells #[.int .i64 0, .int .i64 0, .int .i64 0, .int .i64 0] 25)
  have h0 := (Mod.refl [] w).alloc (.cells #[.int .i64 0, .int .i64 0, .int .i64 0, .int .i64 0] 25)
  obtain ⟨i5, hi5, hz0, hz1, hz2⟩ := info_parts info_bor
  have hln := fun ty w' => row_len (ty := ty) Try.underlying36 hr w'
  have hbH := Lib.hid hb
  have hrH := Lib.hid hr
  clear hb hr
  go_enter Try.func35, Try.ntmps35
  go_wp2_with fail
  generalize hrs : w.heap.size = r at *
  generalize w.alloc (.cells #[.int .i64 0, .int .i64 0, .int .i64 0, .int .i64 0] 25) = W0 at *
  go_loopw [8] (fun i wr => ∃ k : Nat, k ≤ L.length ∧ i = .int .i64 k ∧ (Mod [] w wr ∧ wr.heap[r]? = some (.cells #[.int .i64 0, .int .i64 0, .int .i64 0, .int .i64 0] 25 (0, 0))) ∧ getB (L.take k) (o, h) = none) (fun i _ => L.length - (intOf i).toNat)
  case atStart => exact ⟨0, by omega, rfl, ⟨h0, h0b⟩, rfl⟩
  case round =>
    obtain ⟨k, hk, rfl, ⟨hm, hbx⟩, ho⟩ := hrel
    have hcb := cells_of (hm.at hbH.out (by simp))
    have hcx := cells_of hbx
    have hfx := frozen_of hbx
    have hoH := Lib.hid ho
    have hmH := Lib.hid hm
    have hbxH := Lib.hid hbx
    have hrow := row_mod hrH.out hm (by simp)
    clear hm ho hbx h0 h0b
    by_cases hlt : k < L.length
    · obtain ⟨g, cap, rfl, _, hg, xo, xh, xm, xc, hs, _, c0, c1, c2, c3⟩ := bor_cells hrow rfl hlt
      have hsH := Lib.hid hs
      clear hs hrow
      by_cases he : xo = o
      · subst he
        have z : (xo == xo) = true := by simp
        by_cases he2 : xh = h
        · subst he2
          have z : (xh == xh) = true := by simp
          obtain rfl := hGH.out.symm.trans (getB_here hsH.out hoH.out)
          clear hGH
          go_wp2_with fail
          have hz := cells_of (at_setCell (o := 3) (v := .int .i64 xc) (at_setCell (o := 2) (v := .int .i64 xm) (at_setCell (o := 1) (v := .int .i64 xh) (at_setCell (o := 0) (v := .int .i64 xo) hbxH.out))))
          exact bodyPost_ret (v := .tuple #[.agg #[.int .i64 xo, .int .i64 xh, .int .i64 xm, .int .i64 xc], .bool true]) (by simp [results, Try.results35, go_sem, hz]) rfl ⟨rfl, by repeat (first | exact hmH.out | (refine Mod.setCell ?_ (.inr (by simp [hrs])) _))⟩
        · have z2 : (xh == h) = false := by simpa using he2
          have hN := Lib.hid (getB_none_take hsH.out hoH.out (by omega))
          go_wp2_with fail
          go_roundw
          case rel => exact ⟨k + 1, by omega, by go_num, ⟨hmH.out, hbxH.out⟩, hN.out⟩
          case measure => simp [intOf]; omega
      · have z : (xo == o) = false := by simpa using he
        have hN := Lib.hid (getB_none_take hsH.out hoH.out (by omega))
        go_wp2_with fail
        go_roundw
        case rel => exact ⟨k + 1, by omega, by go_num, ⟨hmH.out, hbxH.out⟩, hN.out⟩
        case measure => simp [intOf]; omega
    · obtain rfl : k = L.length := by omega
      have hG := hoH.out
      rw [List.take_length] at hG
      obtain rfl := hGH.out.symm.trans hG
      clear hrow hG hGH
      go_wp2_with fail
      have hz := cells_of (at_setCell (o := 3) (v := .int .i64 0) (at_setCell (o := 2) (v := .int .i64 0) (at_setCell (o := 1) (v := .int .i64 0) (at_setCell (o := 0) (v := .int .i64 0) hbxH.out))))
      exact bodyPost_ret (v := .tuple #[.agg #[.int .i64 0, .int .i64 0, .int .i64 0, .int .i64 0], .bool false]) (by simp [results, Try.results35, go_sem, hz]) rfl ⟨rfl, by repeat (first | exact hmH.out | (refine Mod.setCell ?_ (.inr (by simp [hrs])) _))⟩
end
end Go.Proofs.Ytappkiiihnaegaa
