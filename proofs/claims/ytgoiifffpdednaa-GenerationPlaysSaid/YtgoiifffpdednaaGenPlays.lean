/- GenerationPlays: the walk of the law. -/
import Derived.Test.YtgoiifffpdednaaGenPair
namespace Go.Proofs.Ytgoiifffpdednaa
open Go Go.RowKit Go.Stg

theorem sc_alike {F : List Nat} {W w : World} {n b pb c : Nat} {sl gv lv : Value} {first : Int} {x : GS} (h : Scene F W [genC b pb sl first x, rgenC c gv lv first x] w) (hI : GInv n first x) (hn : n ≤ 4096) :
    Calls Try.prog 15 #[.pointer (some ⟨b, 0, none⟩), .pointer (some ⟨c, 0, none⟩)] w fun e w' => e = .returned (.bool true) ∧ Scene F W [genC b pb sl first x, rgenC c gv lv first x] w' := by
  obtain ⟨psv, hg⟩ := sc_gen 0 h rfl
  obtain ⟨fv, hr⟩ := sc_rgen 1 h rfl
  exact (alike_ok hg hr hI hn).mono fun e w' ⟨he, hm⟩ => ⟨he, h.then hm⟩
set_option maxHeartbeats 4000000 in
set_option maxRecDepth 10000 in
theorem plays_walk (nu f : Int) (sv : Value) (xs : List X2) (n0 : 0 ≤ nu) (n1 : nu ≤ 255) (f0 : 0 ≤ f) (f1 : f ≤ 255) (w : World) (hs : StepsAt w sv xs) :
    Calls Try.prog 4 #[.int .u8 nu, .int .u8 f, sv] w fun e w' => e = .returned (.bool true) ∧ Mod [] w w' := by
  have hln := fun ty w => hs.len ty w
  have hlm := hs.small
  obtain ⟨n, hn⟩ := Int.eq_ofNat_of_zero_le (show 0 ≤ nu % 8 by omega)
  have hn7 : n ≤ 7 := by omega
  obtain ⟨hf1, hf2⟩ := firstP_in f f0 f1
  have hsH := Lib.hid hs
  have hF := Lib.hid fun w => first_any f f0 f1 w
  generalize firstP f = first at *
  have hI0 := Lib.hid (GInv.start n first)
  clear hs
  go_enter Try.func4, Try.ntmps4
  go_wp2_with fail
  refine (hF.out _).mono ?_
  rintro e w1 ⟨rfl, hm1⟩
  go_wp2_with fail
  refine (new_ok n first (by omega) hf1 hf2 w1).mono ?_
  rintro e w2 ⟨b, pb, sl, psv, rfl, hm2, hG2, hfo2⟩
  have hS2 : Scene [] w [genC b pb sl first ⟨fresh n, upTo n, 0⟩] w2 := ((Scene.empty w).then hm1).add hm2 ⟨psv, hG2, rfl⟩ hfo2
  clear hm1 hm2 hG2 hfo2
  go_wp2_with fail
  refine (hF.out _).mono ?_
  rintro e w3 ⟨rfl, hm3⟩
  have hS3 := hS2.then hm3
  clear hF hS2 hm3
  go_wp2_with fail
  refine (rnew_ok n first (by omega) hf1 hf2 w3).mono ?_
  rintro e w4 ⟨c, gv, lv, fv, rfl, hm4, hG4, hfo4⟩
  have hS4 := (hS3.add (c := rgenC c gv lv first ⟨fresh n, upTo n, 0⟩) hm4 ⟨fv, hG4, rfl⟩ hfo4).swap
  clear hS3 hm4 hG4 hfo4
  go_wp2_with fail
  have hI := hI0.out
  clear hI0
  go_loopw [11] (fun i wr => ∃ k : Nat, k ≤ xs.length ∧ k ≤ 40 ∧ i = .int .i64 k ∧ ∃ x : GS, Scene [] w [genC b pb sl first x, rgenC c gv lv first x] wr ∧ GInv n first x) (fun i _ => 40 - (intOf i).toNat)
  case atStart => exact ⟨0, by omega, by omega, rfl, ⟨_, _, _⟩, hS4, hI⟩
  case round =>
    obtain ⟨k, hk1, hk2, rfl, x, hSx, hG⟩ := hrel
    clear hS4 hI
    by_cases hlt : k < xs.length
    · by_cases hlt2 : k < 40
      · have hGH := Lib.hid hG
        have hSH := Lib.hid hSx
        have hsr := hsH.out.mod hSx.mod
        clear hG hSx
        have hk40 : decide ((k : Int) < 40) = true := by rw [decide_eq_true_eq]; omega
        rcases hsr with ⟨_, rfl⟩ | ⟨sb, so, cap, rfl, h2, h3, h4⟩
        · simp at hlt
        · obtain ⟨⟨⟨a0, a1⟩, b0, b1⟩, c0, c1⟩ := h4 k hlt
          clear h4 hsH
          generalize hx0 : xs[k] = x0 at *
          clear hx0
          rcases x0 with ⟨xa, xb⟩
          simp only at a0 a1 b0 b1 c0 c1
          go_wp2_with fail
          refine (step_ok hSH.out hGH.out (by omega) hf1 hf2 xa xb a0 a1 b0 b1).mono ?_
          rintro e w5 ⟨rfl, hS5⟩
          have hG5 := hGH.out.step hf1 hf2 xa xb
          clear hSH
          go_wp2_with fail
          refine (sc_alike hS5 hG5 (by omega)).mono ?_
          rintro e w6 ⟨rfl, hS6⟩
          clear hS5
          go_wp2_with fail
          go_roundw
          case rel => exact ⟨k + 1, by omega, by omega, by go_num, _, hS6, hG5⟩
          case measure => simp [intOf]; omega
      · have hm := hSx.mod
        clear hSx
        go_wp2_with fail
        refine (awake_ok _).mono ?_
        rintro e w3 ⟨rfl, hm3⟩
        go_wp2_with fail
        go_ret
        exact ⟨rfl, hm.nil_then hm3⟩
    · have hm := hSx.mod
      clear hSx
      go_wp2_with fail
      refine (awake_ok _).mono ?_
      rintro e w3 ⟨rfl, hm3⟩
      go_wp2_with fail
      go_ret
      exact ⟨rfl, hm.nil_then hm3⟩
end Go.Proofs.Ytgoiifffpdednaa
