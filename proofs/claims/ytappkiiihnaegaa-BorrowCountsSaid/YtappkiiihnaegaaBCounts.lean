/- BorrowCounts: the walk of the law. -/
import Derived.Test.YtappkiiihnaegaaBLaw
import Derived.Test.YtappkiiihnaegaaBSteps
namespace Go.Proofs.Ytappkiiihnaegaa
open Go Go.RowKit Go.Stg

/-- A ledger with one borrow, lent i times. -/
def cL (o h : Int) : Nat → List Bor
  | 0 => []
  | i + 1 => [((o, h), (1, ((i + 1 : Nat) : Int)))]
theorem cL_inv (o h : Int) : ∀ i, BInv i (cL o h i)
  | 0 => BInv.nil
  | i + 1 => by
    refine ⟨⟨by simp [cL, Srt], fun b hb => ?_, fun b hb => ?_, fun a ha b hb _ => ?_, fun a ha he => ?_⟩, by simp [cL]⟩
    all_goals simp only [cL, List.mem_singleton] at *
    · subst hb; simp only; omega
    · subst hb; exact .inl rfl
    · subst ha; subst hb; rfl
    · subst ha; simp at he
theorem cL_lendE (o h : Int) (i : Nat) : lendE (cL o h i) o 1 = 0 := by
  cases i <;> simp [cL, lendE, modeO, ofO]
theorem cL_lendL (o h : Int) (i : Nat) : lendL (cL o h i) o h 1 = cL o h (i + 1) := by
  unfold lendL
  rw [if_pos (cL_lendE o h i)]
  cases i <;> simp [cL, putB, without, ins, cntOf, getB]
theorem cL_lendE2 (o h : Int) (i : Nat) : lendE (cL o h (i + 1)) o 2 = 14 := by simp [cL, lendE, modeO, ofO]
theorem cL_lendL2 (o h : Int) (i : Nat) : lendL (cL o h (i + 1)) o h 2 = cL o h (i + 1) := by
  unfold lendL
  rw [cL_lendE2, if_neg (by decide)]
theorem cL_held (o h : Int) (i : Nat) : (heldH (cL o h (i + 1)) h).length = 1 := by simp [cL, heldH]
theorem cL_relE (o h : Int) (i : Nat) : relE (cL o h (i + 1)) (o, h) = 0 := by simp [cL, relE, getB]
theorem cL_relL (o h : Int) (i : Nat) : relL (cL o h (i + 1)) (o, h) = cL o h i := by
  cases i with
  | zero => simp [cL, relL, getB, without]
  | succ i =>
    simp only [cL, relL, getB, List.find?_cons_of_pos, decide_true]
    rw [if_neg (by omega)]
    simp [putB, without, ins]
theorem cL_get0 (o h : Int) : foundV (getB (cL o h 0) (o, h)) = .tuple #[.agg #[.int .i64 0, .int .i64 0, .int .i64 0, .int .i64 0], .bool false] := rfl
theorem cL_get (o h : Int) (i : Nat) : foundV (getB (cL o h (i + 1)) (o, h)) = .tuple #[.agg #[.int .i64 o, .int .i64 h, .int .i64 1, .int .i64 ((i + 1 : Nat) : Int)], .bool true] := by
  simp [cL, getB, foundV, bv]
theorem cL_last (o h : Int) : lendE [] o 2 = 0 ∧ lendL [] o h 2 = [((o, h), (2, 1))] ∧ lendE [((o, h), (2, 1))] o 1 = 14 ∧ relE [] (o, h) = 13 ∧ relL [] (o, h) = [] ∧ (heldH [] h).length = 0 := by
  refine ⟨by simp [lendE, modeO, ofO], by simp [lendL, lendE, modeO, ofO, putB, without, ins, cntOf, getB], by simp [lendE, modeO, ofO], rfl, rfl, rfl⟩
set_option maxHeartbeats 4000000 in
set_option maxRecDepth 20000 in
theorem counts_walk (o h n : Int) (n0 : 0 ≤ n) (n1 : n ≤ 255) (w : World) :
    Calls Try.prog 3 #[.int .i64 o, .int .i64 h, .int .u8 n] w fun e w' => e = .returned (.bool true) ∧ Mod [] w w' := by
  obtain ⟨m, hm⟩ := Int.eq_ofNat_of_zero_le (show 0 ≤ 1 + n % 20 by omega)
  have hm1 : 1 ≤ m ∧ m ≤ 20 := by omega
  go_enter Try.func3, Try.ntmps3
  go_wp2_with fail
  refine (new_sc (Scene.empty w)).mono ?_
  rintro e w1 ⟨rfl, hS1⟩
  generalize w.heap.size = b at *
  have hS1H := Lib.hid hS1
  clear hS1
  go_wp2_with fail
  go_loopw [9] (fun i wr => ∃ j : Nat, j ≤ m ∧ i = .int .i64 j ∧ Scene [] w [ledC b (cL o h j)] wr) (fun i _ => m - (intOf i).toNat)
  case atStart => exact ⟨0, by omega, rfl, hS1H.out⟩
  case round =>
    obtain ⟨j, hj, rfl, hS⟩ := hrel
    have hSH := Lib.hid hS
    clear hS hS1H
    by_cases hlt : j < m
    · cases j with
      | zero =>
        go_wp2_with fail
        refine (sc_holds 0 hSH.out (cL_inv o h 0) (by omega) rfl o h).mono ?_
        rw [cL_get0]
        rintro e w3 ⟨rfl, hm3⟩
        have hSb := Lib.hid ((hSH.out.then hm3).then ((Mod.refl [] w3).alloc (.cells #[.int .i64 0, .int .i64 0, .int .i64 0, .int .i64 0] 25)))
        clear hm3 hSH
        go_wp2_with fail
        refine (sc_lend 0 hSb.out (cL_inv o h 0) (by omega) rfl o h 1).mono ?_
        rw [cL_lendE, cL_lendL]
        rintro e w4 ⟨rfl, hS4⟩
        have hS4H := Lib.hid hS4
        clear hS4 hSb
        go_wp2_with fail
        refine (sc_lend 0 hS4H.out (cL_inv o h (0 + 1)) (by omega) rfl o h 2).mono ?_
        rw [cL_lendE2, cL_lendL2]
        rintro e w5 ⟨rfl, hS5⟩
        have hS5H := Lib.hid hS5
        clear hS5 hS4H
        go_wp2_with fail
        refine (sc_held 0 hS5H.out (cL_inv o h (0 + 1)) (by omega) rfl h).mono ?_
        rw [cL_held]
        rintro e w6 ⟨rfl, hm6⟩
        have hS6H := Lib.hid (hS5H.out.then hm6)
        clear hm6 hS5H
        go_wp2_with fail
        go_roundw
        case rel => exact ⟨0 + 1, by omega, by go_num, hS6H.out⟩
        case measure => simp [intOf]; omega
      | succ j =>
        have hq := cL_get o h j
        have e' : ((j + 1 : Nat) : Int) = (j : Int) + 1 := by simp
        rw [e'] at hq ⊢
        have hqH := Lib.hid hq
        have z1 : decide ((j : Int) + 1 > 0) = true := by rw [decide_eq_true_eq]; omega
        have z2 : ((j : Int) + 1 != (j : Int) + 1) = false := by simp
        clear hq e'
        go_wp2_with fail
        refine (sc_holds 0 hSH.out (cL_inv o h (j + 1)) (by omega) rfl o h).mono ?_
        rw [hqH.out]
        rintro e w3 ⟨rfl, hm3⟩
        have hSb := Lib.hid ((hSH.out.then hm3).then ((Mod.refl [] w3).alloc (.cells #[.int .i64 o, .int .i64 h, .int .i64 1, .int .i64 ((j : Int) + 1)] 25)))
        clear hm3 hSH
        go_wp2_with fail
        refine (sc_lend 0 hSb.out (cL_inv o h (j + 1)) (by omega) rfl o h 1).mono ?_
        rw [cL_lendE, cL_lendL]
        rintro e w4 ⟨rfl, hS4⟩
        have hS4H := Lib.hid hS4
        clear hS4 hSb
        go_wp2_with fail
        refine (sc_lend 0 hS4H.out (cL_inv o h ((j + 1) + 1)) (by omega) rfl o h 2).mono ?_
        rw [cL_lendE2, cL_lendL2]
        rintro e w5 ⟨rfl, hS5⟩
        have hS5H := Lib.hid hS5
        clear hS5 hS4H
        go_wp2_with fail
        refine (sc_held 0 hS5H.out (cL_inv o h ((j + 1) + 1)) (by omega) rfl h).mono ?_
        rw [cL_held]
        rintro e w6 ⟨rfl, hm6⟩
        have hS6H := Lib.hid (hS5H.out.then hm6)
        clear hm6 hS5H
        go_wp2_with fail
        go_roundw
        case rel => exact ⟨(j + 1) + 1, by omega, by go_num, hS6H.out⟩
        case measure => simp [intOf]; omega
    · obtain rfl : j = m := by omega
      go_wp2_with fail
      go_loopw [12] (fun i wr => ∃ t : Nat, t ≤ j ∧ i = .int .i64 t ∧ Scene [] w [ledC b (cL o h (j - t))] wr) (fun i _ => j - (intOf i).toNat)
      case atStart => exact ⟨0, by omega, rfl, hSH.out⟩
      case round =>
        obtain ⟨t, ht, rfl, hS⟩ := hrel
        have hSt := Lib.hid hS
        clear hS hSH
        by_cases htl : t < j
        · obtain ⟨d, hd⟩ : ∃ d, j - t = d + 1 := ⟨j - t - 1, by omega⟩
          rw [hd] at hSt
          go_wp2_with fail
          refine (sc_release 0 hSt.out (cL_inv o h (d + 1)) (by omega) rfl o h).mono ?_
          rw [cL_relE, cL_relL]
          rintro e w4 ⟨rfl, hS4⟩
          have hS4H := Lib.hid hS4
          clear hS4 hSt
          go_wp2_with fail
          go_roundw
          case rel => exact ⟨t + 1, by omega, by go_num, by rw [show j - (t + 1) = d by omega]; exact hS4H.out⟩
          case measure => simp [intOf]; omega
        · obtain rfl : t = j := by omega
          rw [Nat.sub_self] at hSt
          obtain ⟨q1, q2, q3, q4, q5, q6⟩ := cL_last o h
          have q1 := Lib.hid q1
          have hq : Hid (lendE [] o 2 = 0 ∧ lendL [] o h 2 = [((o, h), (2, 1))] ∧ lendE [((o, h), (2, 1))] o 1 = 14 ∧ relE [] (o, h) = 13 ∧ relL [] (o, h) = [] ∧ (heldH [] h).length = 0) := Lib.hid (cL_last o h)
          clear q1 q2 q3 q4 q5 q6
          go_wp2_with fail
          refine (awake_ok _).mono ?_
          rintro e w5 ⟨rfl, hm5⟩
          have hS5 := Lib.hid (hSt.out.then hm5)
          clear hm5 hSt
          go_wp2_with fail
          refine (sc_release 0 hS5.out (cL_inv o h 0) (by omega) rfl o h).mono ?_
          rw [show relE (cL o h 0) (o, h) = 13 from rfl, show relL (cL o h 0) (o, h) = [] from rfl]
          rintro e w6 ⟨rfl, hS6⟩
          have hS6H := Lib.hid hS6
          clear hS6 hS5
          go_wp2_with fail
          refine (sc_held 0 hS6H.out BInv.nil (by omega) rfl h).mono ?_
          rw [hq.out.2.2.2.2.2]
          rintro e w7 ⟨rfl, hm7⟩
          have hS7H := Lib.hid (hS6H.out.then hm7)
          clear hm7 hS6H
          go_wp2_with fail
          refine (sc_lend 0 hS7H.out BInv.nil (by omega) rfl o h 2).mono ?_
          rw [hq.out.1, hq.out.2.1]
          rintro e w8 ⟨rfl, hS8⟩
          have hS8H := Lib.hid hS8
          have hI8 : BInv 1 [((o, h), ((2 : Int), (1 : Int)))] := by have := BInv.nil.lend o h 2; rwa [hq.out.2.1] at this
          have hI8H := Lib.hid hI8
          clear hS8 hI8 hS7H
          go_wp2_with fail
          refine (sc_lend 0 hS8H.out hI8H.out (by omega) rfl o h 1).mono ?_
          rw [hq.out.2.2.1]
          rintro e w9 ⟨rfl, hS9⟩
          have hm9 := Lib.hid hS9.mod
          clear hS9 hS8H
          go_wp2_with fail
          go_ret
          exact ⟨rfl, hm9.out⟩
end Go.Proofs.Ytappkiiihnaegaa
