/- PoolOnce: the walk of the law. -/
import Derived.Test.YtnlfcfobdefflaaPoolOnce
namespace Go.Proofs.Ytnlfcfobdefflaa
open Go Go.RowKit Go.Stg

theorem info_bool : (Try.prog.info? 4).map (fun i => (i.zero, i.size, i.bytes)) = some (some (.bool false), 1, 1) := by kernel_rfl
theorem make_marks (k : Nat) (hk : k < 1000000) (w : World) : (Instr.makeSlice 43 (.int .i64 k) (.int .i64 k)).run Try.prog w = .ok (.slice (some ⟨w.heap.size, 0, none⟩) k k) (w.alloc (.cells (madeCells #[.bool false] k) 4 (0, 0))) := by
  obtain ⟨i0, hi, hz0, hz1, hz2⟩ := info_parts info_bool
  have h := run_makeSlice (P := Try.prog) w 43 4 i0 (.bool false) Try.underlying43 hi hz0 .i64 .i64 k k (by omega) (by omega) (by rw [hz1]; omega) (by rw [hz2]; omega) (by omega)
  rw [hz1] at h
  simp only [Nat.mul_one, Int.toNat_natCast] at h
  exact h

set_option maxHeartbeats 2000000 in
theorem once_walk (dv : Value) (ds : List Int) (n : Nat) (hn : n < 256) (w : World) (hs : DrawsAt w dv ds) :
    Calls Try.prog 4 #[.int .u8 n, dv] w fun e w' => e = .returned (.bool true) ∧ Mod [] w w' := by
  have hk : n % 40 < 40 := Nat.mod_lt _ (by omega)
  have hkI : (n : Int) % 40 = ((n % 40 : Nat) : Int) := by omega
  generalize n % 40 = k at *
  have HM := Lib.hid (make_marks k (by omega))
  go_enter Try.func4, Try.ntmps4
  go_wp2_with fail
  refine (Held_New _).mono ?_
  rintro e w1 ⟨b, rfl, hH⟩
  go_wp2_with fail
  go_loopw [7] (fun i wr => ∃ j : Nat, j ≤ k ∧ i = .int .i64 j ∧ Held w b (upTo j) wr) (fun i _ => k - (intOf i).toNat)
  case atStart => exact ⟨0, by omega, rfl, hH⟩
  case round =>
    obtain ⟨j, hj, rfl, hH2⟩ := hrel
    clear hH
    by_cases hlt : j < k
    · go_wp2_with fail
      refine (Held_Put hH2 j (by rw [upTo_length]; omega)).mono ?_
      rintro e w3 ⟨rfl, hH3⟩
      rw [← upTo_succ] at hH3
      go_wp2_with fail
      go_roundw
      case rel => exact ⟨j + 1, by omega, by go_num, hH3⟩
      case measure => simp [intOf]; omega
    · obtain rfl : j = k := by omega
      have HM := HM.out
      go_wp2_with fail
      clear HM
      have hMk := hH2.mark (madeCells #[.bool false] j)
      have hL0 := Left.upTo j
      have hS0 := SeenAs.fresh j
      generalize wr.alloc (.cells (madeCells #[.bool false] j) 4 (0, 0)) = V at *
      generalize wr.heap.size = sb at *
      generalize madeCells #[.bool false] j = cs0 at *
      have hln := fun ty w => hs.len ty w
      have hlm : ds.length ≤ maxLen := by
        rcases hs with ⟨_, rfl⟩ | ⟨_, _, _, _, _, h, _⟩
        · simp
        · exact h
      unfold maxLen at hlm
      clear hH2
      go_loopw [9] (fun i wr => ∃ q : Nat, q ≤ j ∧ i = .int .i64 q ∧ ∃ l cs, Marked w b l sb cs wr ∧ Left j q l ∧ SeenAs j l cs) (fun i _ => j - (intOf i).toNat)
      case atStart => exact ⟨0, by omega, rfl, _, _, hMk, hL0, hS0⟩
      case round =>
        obtain ⟨q, hq, rfl, l, cs, hM, hL, hS⟩ := hrel
        clear hMk hL0 hS0
        by_cases hlt : q < j
        · have hl0 : 0 < l.length := by have := hL.1; omega
          have hsr := hs.mod hM.held.mod
          clear hs
          by_cases hqd : q < ds.length
          · rcases hsr with ⟨_, rfl⟩ | ⟨xb, so, cap, rfl, h2, h3, h4⟩
            · simp at hqd
            · obtain ⟨c0, c1, c2⟩ := h4 q hqd
              clear h4
              generalize ds[q] = d at *
              go_wp2_with fail
              refine (Marked_Take hM d c1 c2 hl0).mono ?_
              rintro e w3 ⟨i, hi, rfl, hM3⟩
              obtain ⟨m, hm, hmk⟩ := hL.2.2 l[i] (List.getElem_mem hi)
              have hL3 := hL.step hl0 hi
              have hS3 := hS.step hL hl0 hi hm hmk
              have hc := hS.2 m hmk
              have hmem : (m : Int) ∈ l := hm ▸ List.getElem_mem hi
              rw [decide_eq_false (fun h => h hmem)] at hc
              have c3 := (cells_of hM3.blk m).trans hc
              have f3 := frozen_of hM3.blk m
              have n1 : ¬ ((m : Int) < 0) := by omega
              have n2 : ¬ ((j : Int) ≤ m) := by omega
              rw [hm]
              clear hM hL hS hc hmem hm
              go_wp2_with fail
              go_roundw
              case rel => exact ⟨q + 1, by omega, by go_num, _, _, hM3.set m (.bool true), hL3, hS3⟩
              case measure => simp [intOf]; omega
          · go_wp2_with fail
            refine (Marked_Take hM q (by omega) (by omega) hl0).mono ?_
            rintro e w3 ⟨i, hi, rfl, hM3⟩
            obtain ⟨m, hm, hmk⟩ := hL.2.2 l[i] (List.getElem_mem hi)
            have hL3 := hL.step hl0 hi
            have hS3 := hS.step hL hl0 hi hm hmk
            have hc := hS.2 m hmk
            have hmem : (m : Int) ∈ l := hm ▸ List.getElem_mem hi
            rw [decide_eq_false (fun h => h hmem)] at hc
            have c3 := (cells_of hM3.blk m).trans hc
            have f3 := frozen_of hM3.blk m
            have n1 : ¬ ((m : Int) < 0) := by omega
            have n2 : ¬ ((j : Int) ≤ m) := by omega
            rw [hm]
            clear hM hL hS hc hmem hm
            go_wp2_with fail
            go_roundw
            case rel => exact ⟨q + 1, by omega, by go_num, _, _, hM3.set m (.bool true), hL3, hS3⟩
            case measure => simp [intOf]; omega
        · have hl0 : l = [] := List.length_eq_zero_iff.1 (by have := hL.1; omega)
          subst hl0
          have hH := hM.held
          clear hs hS hL hM
          go_wp2_with fail
          refine (Held_none hH 7).mono ?_
          rintro e w3 ⟨rfl, hH3⟩
          go_wp2_with fail
          refine (awake_ok _).mono ?_
          rintro e w4 ⟨rfl, hm4⟩
          have hH4 := hH3.then hm4
          go_wp2_with fail
          refine (Held_Len hH4).mono ?_
          rintro e w5 ⟨rfl, hH5⟩
          go_wp2_with fail
          go_ret
          exact ⟨rfl, hH5.mod⟩
end Go.Proofs.Ytnlfcfobdefflaa
