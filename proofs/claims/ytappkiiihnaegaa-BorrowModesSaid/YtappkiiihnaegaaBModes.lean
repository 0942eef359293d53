/- BorrowModes: the walk of the law. -/
import Derived.Test.YtappkiiihnaegaaBLike
import Derived.Test.YtappkiiihnaegaaBSteps
namespace Go.Proofs.Ytappkiiihnaegaa
open Go Go.RowKit Go.Stg

theorem of_at {N : Int} {L : List Bor} (h : LInv N L) {o : Int} {k : Nat} {xo xh xm xc : Int} (hk : (ofO L o)[k]? = some ((xo, xh), (xm, xc))) :
    xo = o ∧ 1 ≤ xc ∧ (xm = 1 ∨ xm = 2) ∧ (xm = 2 → (ofO L o).length = 1 ∧ xc = 1) ∧ ∀ j, k = j + 1 → ∀ yo yh ym yc, (ofO L o)[j]? = some ((yo, yh), (ym, yc)) → yh < xh := by
  have hx := ofO_mem.1 (List.mem_iff_getElem?.2 ⟨k, hk⟩)
  have h1 := h.one _ hx.1
  have h2 := h.mode _ hx.1
  refine ⟨hx.2, h1.1, h2, fun e => ?_, fun j hj yo yh ym yc hy => ?_⟩
  · have h3 := h.excl _ hx.1 e
    refine ⟨?_, h3.1⟩
    have hall : ∀ a ∈ ofO L o, a = ((xo, xh), (xm, xc)) := fun a ha => h3.2 a (ofO_mem.1 ha).1 ((ofO_mem.1 ha).2.trans hx.2.symm)
    have hnd : (ofO L o).Nodup := by
      have := (h.srt.filter (fun b => decide (b.1.1 = o))).nodup
      exact List.Pairwise.imp (fun hne e => hne (by rw [e])) (List.pairwise_map.1 this)
    match hof : ofO L o, hall, hnd, List.mem_iff_getElem?.2 ⟨k, hk⟩ with
    | [], _, _, hm => simp [hof] at hm
    | [_], _, _, _ => rfl
    | a :: c :: l, hall, hnd, _ =>
      exfalso
      have e1 := hall a (by simp)
      have e2 := hall c (by simp)
      rw [List.nodup_cons] at hnd
      exact hnd.1 (by rw [e1, ← e2]; simp)
  · subst hj
    have hs := h.srt.filter (fun b => decide (b.1.1 = o))
    obtain ⟨l1, e1⟩ := List.getElem?_eq_some_iff.1 hk
    obtain ⟨l2, e2⟩ := List.getElem?_eq_some_iff.1 hy
    have h4 := List.pairwise_iff_getElem.1 hs j (j + 1) l2 l1 (by omega)
    have e1' : (L.filter fun b => decide (b.1.1 = o))[j + 1]'l1 = ((xo, xh), (xm, xc)) := e1
    have e2' : (L.filter fun b => decide (b.1.1 = o))[j]'l2 = ((yo, yh), (ym, yc)) := e2
    rw [e1', e2', klt_iff] at h4
    have hy2 := (ofO_mem.1 (List.mem_iff_getElem?.2 ⟨j, hy⟩)).2
    simp only at h4 hy2 hx
    omega
set_option maxHeartbeats 8000000 in
set_option maxRecDepth 20000 in
theorem modes_walk (sv : Value) (xs : List X4) (w : World) (hs : Steps4At w sv xs) :
    Calls Try.prog 4 #[sv] w fun e w' => e = .returned (.bool true) ∧ Mod [] w w' := by
  have hln := fun ty w => hs.len ty w
  have hlm := hs.small
  have hsH := Lib.hid hs
  clear hs
  go_enter Try.func4, Try.ntmps4
  go_wp2_with fail
  refine (new_sc (Scene.empty w)).mono ?_
  rintro e w1 ⟨rfl, hS1⟩
  generalize w.heap.size = b at *
  have hS2 := Lib.hid (rled_alloc hS1).swap
  clear hS1
  go_wp2_with fail
  generalize w1.heap.size = q at *
  generalize w1.alloc (.cells #[.slice none 0 0] 38) = w2 at *
  go_loopw [5] (fun i wr => ∃ (k : Nat) (L : List Bor), k ≤ xs.length ∧ k ≤ 40 ∧ i = .int .i64 k ∧ Scene [] w [ledC b L, rledC q L] wr ∧ BInv k L) (fun i _ => 40 - (intOf i).toNat)
  case atStart => exact ⟨0, [], by omega, by omega, rfl, hS2.out, BInv.nil⟩
  case round =>
    obtain ⟨k, L, hk1, hk2, rfl, hSx, hI⟩ := hrel
    have hSH := Lib.hid hSx
    have hIH := Lib.hid hI
    clear hS2 hSx hI
    by_cases hlt : k < xs.length
    · by_cases hlt2 : k < 40
      · have hk40 : decide ((k : Int) < 40) = true := by rw [decide_eq_true_eq]; omega
        rcases hsH.out with ⟨_, rfl⟩ | ⟨sb, so, cap, rfl, h2, h3, h4⟩
        · simp at hlt
        · obtain ⟨⟨a0, b0, e0, d0⟩, c0, c1, c2, c3⟩ := h4 k hlt
          clear h4
          have c0 := (cell_mod hSH.out.mod h2 (by simp)).trans c0
          have c1 := (cell_mod hSH.out.mod h2 (by simp)).trans c1
          have c2 := (cell_mod hSH.out.mod h2 (by simp)).trans c2
          have c3 := (cell_mod hSH.out.mod h2 (by simp)).trans c3
          generalize hx0 : xs[k] = x0 at *
          clear hx0
          rcases x0 with ⟨xa, xb, xc, xd⟩
          simp only at a0 b0 e0 d0 c0 c1 c2 c3
          go_wp2_with fail
          refine (step_ok hSH.out hIH.out (by omega) xa xb xc xd a0 b0 e0 d0).mono ?_
          rintro e w3 ⟨rfl, hS3⟩
          have hS3H := Lib.hid hS3
          have hI2 := Lib.hid (hIH.out.step xa xb xc xd)
          generalize stepL xa xb xc xd L = L2 at *
          clear hS3 c0 c1 c2 c3 hSH hIH
          go_wp2_with fail
          generalize hwr0 : wr = wr0 at *
          clear hwr0
          go_loopw [6] (fun i wr => ∃ j : Nat, j ≤ 4 ∧ i = .int .i64 j ∧ Scene [] w [ledC b L2, rledC q L2] wr) (fun i _ => 4 - (intOf i).toNat)
          case atStart => exact ⟨0, by omega, rfl, hS3H.out⟩
          case round =>
            obtain ⟨j, hj, rfl, hSj⟩ := hrel
            have hSjH := Lib.hid hSj
            clear hSj hS3H
            by_cases hj4 : j < 4
            · have hj4' : decide ((j : Int) < 4) = true := by rw [decide_eq_true_eq]; omega
              go_wp2_with fail
              refine (sc_of 0 hSjH.out hI2.out (by omega) rfl (j : Int)).mono ?_
              rintro e w4 ⟨v, rfl, hr, hm4⟩
              obtain ⟨oa, ol, oc, rfl⟩ := row_slice hr
              have hln2 := fun ty w' => row_len (ty := ty) Try.underlying36 hr w'
              have hS4 := Lib.hid (hSjH.out.then hm4)
              have hrH := Lib.hid hr
              have hofl : (ofO L2 (j : Int)).length ≤ L2.length := List.length_filter_le _ _
              have hL2l := hI2.out.len
              clear hm4 hr hSjH
              go_wp2_with fail
              generalize hwr1 : wr = wr1 at *
              clear hwr1
              go_loopw [39] (fun i wr => ∃ t : Nat, t ≤ (ofO L2 (j : Int)).length ∧ i = .int .i64 t ∧ Mod [] w4 wr) (fun i _ => (ofO L2 (j : Int)).length - (intOf i).toNat)
              case atStart => exact ⟨0, by omega, rfl, Mod.refl _ _⟩
              case round =>
                obtain ⟨t, ht, rfl, hmt⟩ := hrel
                have hmtH := Lib.hid hmt
                by_cases htl : t < (ofO L2 (j : Int)).length
                · have hrow := row_mod hrH.out hmt (by simp)
                  obtain ⟨g, cap2, hv, _, hg, xo, xh, xm, xc, hs, hx, c0, c1, c2, c3⟩ := bor_cells hrow rfl htl
                  cases hv
                  obtain ⟨g1, g2, g3, g4, g5⟩ := of_at hI2.out.inv hx
                  subst g1
                  have k0 := GW.cell1 (S := []) c0 hg (by simp)
                  have k1 := GW.cell1 (S := []) c1 hg (by simp)
                  have k2 := GW.cell1 (S := []) c2 hg (by simp)
                  have k3 := GW.cell1 (S := []) c3 hg (by simp)
                  have z0 : ((j : Int) != (j : Int)) = false := by simp
                  have z1 : decide (xc < 1) = false := by rw [decide_eq_false_iff_not]; omega
                  cases t with
                  | zero =>
                    clear hs hx c0 c1 c2 c3 hmt hrow g5
                    rcases g3 with rfl | rfl
                    · clear g4
                      go_wp2_with fail
                      refine wp_region_pure (by kernel_rfl) (by kernel_rfl) ?_
                      refine stage_quiet 54 (by kernel_rfl) ?_
                      simp only [List.take_succ_cons, List.take_zero, List.drop_succ_cons, List.drop_zero]
                      repeat (go_big_quiet_step (fail))
                      refine wpQuiet_nil ?_
                      refine stage_nil fun w7 hm7 => ?_
                      have hm8 := Lib.hid (hmtH.out.nil_then hm7)
                      clear hm7
                      go_wp2_with fail
                      go_roundw
                      case rel => exact ⟨_, htl, by go_num, hm8.out⟩
                      case measure => simp [intOf]; omega
                    · obtain ⟨g6, rfl⟩ := g4 rfl
                      clear g4
                      rw [g6] at hln2
                      go_wp2_with fail
                      refine wp_region_pure (by kernel_rfl) (by kernel_rfl) ?_
                      refine stage_quiet 54 (by kernel_rfl) ?_
                      simp only [List.take_succ_cons, List.take_zero, List.drop_succ_cons, List.drop_zero]
                      repeat (go_big_quiet_step (fail))
                      refine wpQuiet_nil ?_
                      refine stage_nil fun w7 hm7 => ?_
                      have hm8 := Lib.hid (hmtH.out.nil_then hm7)
                      clear hm7
                      go_wp2_with fail
                      go_roundw
                      case rel => exact ⟨_, htl, by go_num, hm8.out⟩
                      case measure => simp [intOf]; omega
                  | succ t =>
                    obtain ⟨g', cap3, hv', _, hg', yo, yh, ym, yc, _, hy, d0, d1, d2, d3⟩ := bor_cells hrow rfl (show t < (ofO L2 (j : Int)).length by omega)
                    cases hv'
                    have hyx := g5 t rfl _ _ _ _ hy
                    have k4 := GW.cell1 (S := []) d1 hg (by simp)
                    have z2 : decide (yh ≥ xh) = false := by rw [decide_eq_false_iff_not]; omega
                    have e' : ((t + 1 : Nat) : Int) = (t : Int) + 1 := by simp
                    rw [e']
                    clear hs hx hy c0 c1 c2 c3 d0 d1 d2 d3 hmt hrow g5
                    rcases g3 with rfl | rfl
                    · clear g4
                      go_wp2_with fail
                      refine wp_region_pure (by kernel_rfl) (by kernel_rfl) ?_
                      refine stage_quiet 54 (by kernel_rfl) ?_
                      simp only [List.take_succ_cons, List.take_zero, List.drop_succ_cons, List.drop_zero]
                      repeat (go_big_quiet_step (fail))
                      refine wpQuiet_nil ?_
                      refine stage_nil fun w7 hm7 => ?_
                      have hm8 := Lib.hid (hmtH.out.nil_then hm7)
                      clear hm7
                      go_wp2_with fail
                      go_roundw
                      case rel => exact ⟨_, htl, by go_num, hm8.out⟩
                      case measure => simp [intOf]; omega
                    · exact absurd (g4 rfl).1 (by omega)
                · obtain rfl : t = (ofO L2 (j : Int)).length := by omega
                  go_wp2_with fail
                  go_roundw
                  case rel => exact ⟨j + 1, by omega, by go_num, hS4.out.then hmtH.out⟩
                  case measure => simp [intOf]; omega
            · obtain rfl : j = 4 := by omega
              go_wp2_with fail
              go_roundw
              case rel => exact ⟨k + 1, _, by omega, by omega, by go_num, hSjH.out, hI2.out⟩
              case measure => simp [intOf]; omega
      · have hk40 : decide ((k : Int) < 40) = false := by rw [decide_eq_false_iff_not]; omega
        go_wp2_with fail
        refine (awake_ok _).mono ?_
        rintro e w5 ⟨rfl, hm5⟩
        have hm6 := Lib.hid (hSH.out.then hm5).mod
        clear hSH
        go_wp2_with fail
        go_ret
        exact ⟨rfl, hm6.out⟩
    · go_wp2_with fail
      refine (awake_ok _).mono ?_
      rintro e w5 ⟨rfl, hm5⟩
      have hm6 := Lib.hid (hSH.out.then hm5).mod
      clear hSH
      go_wp2_with fail
      go_ret
      exact ⟨rfl, hm6.out⟩
end Go.Proofs.Ytappkiiihnaegaa
