/- BorrowPlays: the walk of the law. -/
import Derived.Test.YtappkiiihnaegaaBLike
import Derived.Test.YtappkiiihnaegaaBSteps
namespace Go.Proofs.Ytappkiiihnaegaa
open Go Go.RowKit Go.Stg

set_option maxHeartbeats 4000000 in
set_option maxRecDepth 20000 in
theorem plays_walk (sv : Value) (xs : List X4) (w : World) (hs : Steps4At w sv xs) :
    Calls Try.prog 7 #[sv] w fun e w' => e = .returned (.bool true) ∧ Mod [] w w' := by
  have hln := fun ty w => hs.len ty w
  have hlm := hs.small
  have hsH := Lib.hid hs
  clear hs
  go_enter Try.func7, Try.ntmps7
  go_wp2_with fail
  refine (new_sc (Scene.empty w)).mono ?_
  rintro e w1 ⟨rfl, hS1⟩
  generalize w.heap.size = b at *
  have hS2 := Lib.hid (rled_alloc hS1).swap
  clear hS1
  go_wp2_with fail
  generalize w1.heap.size = q at *
  generalize w1.alloc (.cells #[.slice none 0 0] 38) = w2 at *
  go_loopw [5] (fun i wr => ∃ (k : Nat) (L : List Bor), k ≤ xs.length ∧ k ≤ 40 ∧ i = .int .i64 k ∧ Scene [] w [ledC b L, rledC q L] wr ∧ BInv k L) (fun i _ => 40 - (intOf i).toNat)
  case atStart => exact ⟨0, [], by omega, by omega, rfl, hS2.out, BInv.nil⟩
  case round =>
    obtain ⟨k, L, hk1, hk2, rfl, hSx, hI⟩ := hrel
    have hSH := Lib.hid hSx
    have hIH := Lib.hid hI
    clear hS2 hSx hI
    by_cases hlt : k < xs.length
    · by_cases hlt2 : k < 40
      · have hk40 : decide ((k : Int) < 40) = true := by rw [decide_eq_true_eq]; omega
        rcases hsH.out with ⟨_, rfl⟩ | ⟨sb, so, cap, rfl, h2, h3, h4⟩
        · simp at hlt
        · obtain ⟨⟨a0, b0, e0, d0⟩, c0, c1, c2, c3⟩ := h4 k hlt
          clear h4
          generalize hx0 : xs[k] = x0 at *
          clear hx0
          rcases x0 with ⟨xa, xb, xc, xd⟩
          simp only at a0 b0 e0 d0 c0 c1 c2 c3
          have kc0 := GW.cell1 (S := []) c0 h2 (by simp)
          have kc1 := GW.cell1 (S := []) c1 h2 (by simp)
          have kc2 := GW.cell1 (S := []) c2 h2 (by simp)
          have kc3 := GW.cell1 (S := []) c3 h2 (by simp)
          clear c0 c1 c2 c3
          go_wp2_with fail
          refine wp_region_stage (fun w' => ∃ y : GW [] w, w' = y.1) (fun w' => Scene [] w [ledC b L, rledC q L] w') (by kernel_rfl) (by kernel_rfl) (fun _ h => InGW.of h.mod) hSH.out.drew ?_
          refine stage_quiet 6 (by kernel_rfl) ?_
          simp only [List.take_succ_cons, List.take_zero, List.drop_succ_cons, List.drop_zero]
          repeat (go_big_quiet_step (fail))
          refine wpQuiet_nil ?_
          refine stage_go 16 _ (.bool true) (fun w' => Scene [] w [ledC b (stepL xa xb xc xd L), rledC q (stepL xa xb xc xd L)] w') rfl Try.call16 rfl rfl (fun w' hw => step_ok hw hIH.out (by omega) xa xb xc xd a0 b0 e0 d0) (fun _ hw => InGW.of hw.mod) ?_
          simp only [Act.put, List.setIfInBounds_toArray, List.set_cons_succ, List.set_cons_zero]
          refine stage_quiet 18 (by kernel_rfl) ?_
          simp only [List.take_succ_cons, List.take_zero, List.drop_succ_cons, List.drop_zero]
          repeat (go_big_quiet_step (fail))
          refine wpQuiet_nil ?_
          have hI2 := Lib.hid (hIH.out.step xa xb xc xd)
          refine stage_go 21 _ (.bool true) (fun w' => Scene [] w [ledC b (stepL xa xb xc xd L), rledC q (stepL xa xb xc xd L)] w') rfl Try.call21 rfl rfl (fun w' hw => (alike_ok hw hI2.out (by omega) (xb % 4) (xc % 4)).mono fun e w'' ⟨he, hm⟩ => ⟨he, hw.then hm⟩) (fun _ hw => InGW.of hw.mod) ?_
          simp only [Act.put, List.setIfInBounds_toArray, List.set_cons_succ, List.set_cons_zero]
          refine stage_quiet 2 (by kernel_rfl) ?_
          simp only [List.take_succ_cons, List.take_zero, List.drop_succ_cons, List.drop_zero]
          repeat (go_big_quiet_step (fail))
          refine wpQuiet_nil ?_
          refine stage_nil fun w6 hw6 => ?_
          have hS6 := Lib.hid hw6
          clear kc0 kc1 kc2 kc3 hSH hw6
          go_wp2_with fail
          go_roundw
          case rel => exact ⟨k + 1, _, by omega, by omega, by go_num, hS6.out, hI2.out⟩
          case measure => simp [intOf]; omega
      · have hk40 : decide ((k : Int) < 40) = false := by rw [decide_eq_false_iff_not]; omega
        go_wp2_with fail
        refine (awake_ok _).mono ?_
        rintro e w5 ⟨rfl, hm5⟩
        have hm6 := Lib.hid (hSH.out.then hm5).mod
        clear hSH
        go_wp2_with fail
        go_ret
        exact ⟨rfl, hm6.out⟩
    · go_wp2_with fail
      refine (awake_ok _).mono ?_
      rintro e w5 ⟨rfl, hm5⟩
      have hm6 := Lib.hid (hSH.out.then hm5).mod
      clear hSH
      go_wp2_with fail
      go_ret
      exact ⟨rfl, hm6.out⟩
end Go.Proofs.Ytappkiiihnaegaa
