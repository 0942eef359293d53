/- GenerationRetires: the walk of the law. -/
import Derived.Test.YtgoiifffpdednaaGenR
namespace Go.Proofs.Ytgoiifffpdednaa
open Go Go.RowKit Go.Stg

/-- A slot is issued and ended. -/
theorem RInv.issue {W w : World} {b pb n : Nat} {sl : Value} {first ret t : Int} {S : List Slot} {F : List Int} (hS : Sl W b pb sl first S F ret w) (hR : RInv n first S F ret t) (ht : 1 ≤ t) (htop : t ≤ 25) (hn25 : n ≤ 5) (hf1 : 1 ≤ first) (hf2 : first ≤ 4294967295) (hne : F ≠ []) (d : Int) (hd : 0 ≤ d) (hd2 : d ≤ 18446744073709551615) :
    Calls Try.prog 10 #[.pointer (some ⟨b, 0, none⟩), .int .u64 d] w fun e w' => ∃ (j : Nat) (g' : Int) (S' : List Slot) (F' : List Int), e = .returned (.tuple #[.int .i64 j, .int .i64 g', .int .i64 0]) ∧ Sl W b pb sl first S' F' ret w' ∧
      ∀ w2, Sl W b pb sl first S' F' ret w2 → Calls Try.prog 11 #[.pointer (some ⟨b, 0, none⟩), .int .i64 j] w2 fun e w' => e = .returned (.int .i64 0) ∧ ∃ S2 F2 ret2, Sl W b pb sl first S2 F2 ret2 w' ∧ RInv n first S2 F2 ret2 (t - 1) := by
  have hn : 0 < F.length := List.length_pos_iff.2 hne
  have e1 := Int.emod_nonneg d (show (F.length : Int) ≠ 0 by omega)
  have e2 := Int.emod_lt_of_pos d (show (0 : Int) < F.length by omega)
  have hi : d % F.length = (d % F.length).toNat := by omega
  have hil : (d % F.length).toNat < F.length := by omega
  generalize (d % F.length).toNat = i at *
  obtain ⟨j, hj, hjn⟩ := hR.free F[i] (List.getElem_mem hil)
  have hjl : j < S.length := by rw [hR.len]; exact hjn
  have hlow := hR.low F[i] (List.getElem_mem hil)
  rw [hj, slotOf_nat S j hjl] at hlow
  obtain ⟨hg0, hg1⟩ := hR.gens j hjl
  have hgn : (S[j].1 = 0 ∧ nextG first S[j].1 = first) ∨ (S[j].1 ≠ 0 ∧ nextG first S[j].1 = S[j].1 + 1) := by
    unfold nextG
    by_cases h : S[j].1 = 0
    · exact .inl ⟨h, by rw [if_pos h]⟩
    · exact .inr ⟨h, by rw [if_neg h]⟩
  refine (Sl_issue hS d hd hd2 hn i hi hil j hj hjl hg0 hlow (nextG first S[j].1) hgn).mono ?_
  rintro e w1 ⟨rfl, hS1⟩
  refine ⟨j, nextG first S[j].1, _, _, rfl, hS1, fun w2 hS2 => ?_⟩
  have hcnt := hR.cnt
  have hret0 := hR.ret0
  have hsh := hR.short hf2
  have hjs : j < (S.set j (nextG first S[j].1, true)).length := by simpa using hjl
  have hss : (S.set j (nextG first S[j].1, true))[j] = (nextG first S[j].1, true) := by simp
  have hF : (takeAt F i hn).length < 1000000 := by rw [takeAt_length]; omega
  have hset : ∀ g', (S.set j (nextG first S[j].1, true)).set j (g', false) = S.set j (g', false) := fun g' => by rw [List.set_set]
  by_cases hg : nextG first S[j].1 = 4294967295
  · refine (Sl_end hS2 j hjs _ hss (ret + 1) (takeAt F i hn) (by omega) (by omega) hF (.inl ⟨hg, rfl, rfl⟩)).mono ?_
    rintro e w3 ⟨rfl, hS3⟩
    rw [hset] at hS3
    exact ⟨rfl, _, _, _, hS3, hR.step hf1 hf2 hn hil hj hjl _ rfl _ _ (.inl ⟨hg, rfl, rfl⟩)⟩
  · refine (Sl_end hS2 j hjs _ hss ret (takeAt F i hn ++ [(j : Int)]) (by omega) (by omega) hF (.inr ⟨hg, rfl, rfl⟩)).mono ?_
    rintro e w3 ⟨rfl, hS3⟩
    rw [hset] at hS3
    exact ⟨rfl, _, _, _, hS3, hR.step hf1 hf2 hn hil hj hjl _ rfl _ _ (.inr ⟨hg, rfl, rfl⟩)⟩
set_option maxHeartbeats 4000000 in
set_option maxRecDepth 10000 in
theorem retires_walk (n l : Int) (dv : Value) (ds : List Int) (n0 : 0 ≤ n) (n1 : n ≤ 255) (l0 : 0 ≤ l) (l1 : l ≤ 255) (w : World) (hs : DrawsAt w dv ds) :
    Calls Try.prog 7 #[.int .u8 n, .int .u8 l, dv] w fun e w' => e = .returned (.bool true) ∧ Mod [] w w' := by
  have hln := fun ty w => hs.len ty w
  have hdm : ds.length ≤ maxLen := by
    rcases hs with ⟨_, rfl⟩ | ⟨_, _, _, _, _, h, _⟩
    · simp
    · exact h
  unfold maxLen at hdm
  obtain ⟨sz, hsz⟩ := Int.eq_ofNat_of_zero_le (show 0 ≤ 1 + n % 5 by omega)
  obtain ⟨tm, htm⟩ := Int.eq_ofNat_of_zero_le (show 0 ≤ 1 + l % 5 by omega)
  have hs1 : 1 ≤ sz ∧ sz ≤ 5 := by omega
  have ht1 : 1 ≤ tm ∧ tm ≤ 5 := by omega
  have hNw := Lib.hid (Sl_new sz (4294967295 - tm + 1) (by omega) (by omega) (by omega) w)
  have hR0 := Lib.hid (RInv.start sz (4294967295 - tm + 1))
  obtain ⟨N, hN⟩ : ∃ N : Nat, (sz : Int) * tm = N := ⟨sz * tm, by push_cast; rfl⟩
  have hN25 : N ≤ 25 ∧ 1 ≤ N := by
    have h1 : (sz : Int) * tm ≤ 5 * 5 := Int.mul_le_mul (by omega) (by omega) (by omega) (by omega)
    have h2 : (1 : Int) * 1 ≤ (sz : Int) * tm := Int.mul_le_mul (by omega) (by omega) (by omega) (by omega)
    omega
  have hRN : (sz : Int) * (4294967295 - (4294967295 - tm + 1) + 1) = N := by rw [← hN]; congr 1; omega
  have hRNH := Lib.hid hRN
  clear hRN
  go_enter Try.func7, Try.ntmps7
  go_wp2_with fail
  refine hNw.out.mono ?_
  rintro e w1 ⟨b, pb, sl, rfl, hS⟩
  clear hsz htm
  have hR := hR0.out
  rw [hRNH.out] at hR
  clear hR0 hRNH hNw
  obtain ⟨hN1, hN2⟩ := hN25
  have hNH := Lib.hid hN
  have hsH := Lib.hid hs
  clear hs
  go_wp2_with fail
  clear hN
  go_loopw [11] (fun i wr => ∃ k : Nat, k ≤ N ∧ i = .int .i64 k ∧ ∃ S F ret, Sl w b pb sl (4294967295 - tm + 1) S F ret wr ∧ RInv sz (4294967295 - tm + 1) S F ret ((N : Int) - k)) (fun i _ => N - (intOf i).toNat)
  case atStart => exact ⟨0, by omega, rfl, _, _, _, hS, by simpa using hR⟩
  case round =>
    obtain ⟨k, hk, rfl, S, F, ret, hS2, hR2⟩ := hrel
    clear hS hR
    by_cases hlt : k < N
    · have hF : F ≠ [] := by
        rintro rfl
        have := hR2.tot
        simp [sumG] at this
        omega
      have hcall := fun d h1 h2 => Lib.hid (RInv.issue hS2 hR2 (by omega) (by omega) hs1.2 (by omega) (by omega) hF d h1 h2)
      have hwm := hS2.mod
      clear hS2 hR2 hF
      have hNN := hNH.out
      by_cases hqd : k < ds.length
      · rcases hsH.out.mod hwm with ⟨_, rfl⟩ | ⟨xb, so, cap, rfl, h2, h3, h4⟩
        · simp at hqd
        · obtain ⟨c0, c1, c2⟩ := h4 k hqd
          clear h4 hwm hsH
          generalize ds[k] = d at *
          go_wp2_with fail
          refine (hcall d c1 c2).out.mono ?_
          rintro e w3 ⟨j, g', S', F', rfl, hS3, hend⟩
          clear hcall
          have hend := Lib.hid hend
          go_wp2_with fail
          refine (hend.out _ hS3).mono ?_
          rintro e w4 ⟨rfl, S2, F2, ret2, hS4, hR4⟩
          clear hend hS3
          go_wp2_with fail
          go_roundw
          case rel => exact ⟨k + 1, by omega, by go_num, _, _, _, hS4, by rw [show ((N : Int) - ((k + 1 : Nat) : Int)) = (N : Int) - k - 1 by omega]; exact hR4⟩
          case measure => simp [intOf]; omega
      · clear hwm hsH
        go_wp2_with fail
        refine (hcall k (by omega) (by omega)).out.mono ?_
        rintro e w3 ⟨j, g', S', F', rfl, hS3, hend⟩
        clear hcall
        have hend := Lib.hid hend
        go_wp2_with fail
        refine (hend.out _ hS3).mono ?_
        rintro e w4 ⟨rfl, S2, F2, ret2, hS4, hR4⟩
        clear hend hS3
        go_wp2_with fail
        go_roundw
        case rel => exact ⟨k + 1, by omega, by go_num, _, _, _, hS4, by rw [show ((N : Int) - ((k + 1 : Nat) : Int)) = (N : Int) - k - 1 by omega]; exact hR4⟩
        case measure => simp [intOf]; omega
    · obtain rfl : k = N := by omega
      have hsh := hR2.short (by omega)
      have hF : F = [] := List.length_eq_zero_iff.1 (by omega)
      have hcnt := hR2.cnt
      rw [hF] at hcnt
      have hret : ret = sz := by simpa using hcnt
      subst hF hret
      clear hR2 hsh hcnt hsH
      have hNN := hNH.out
      go_wp2_with fail
      refine (Sl_issue_none hS2 rfl 1).mono ?_
      rintro e w3 ⟨rfl, hS3⟩
      go_wp2_with fail
      refine (awake_ok _).mono ?_
      rintro e w4 ⟨rfl, hm4⟩
      have hS4 := hS3.then hm4
      clear hS2 hS3 hm4
      go_wp2_with fail
      refine (Sl_retired hS4).mono ?_
      rintro e w5 ⟨rfl, hS5⟩
      clear hS4
      go_wp2_with fail
      refine (Sl_pool hS5).mono ?_
      rintro e w6 ⟨v, rfl, hS6, hI⟩
      have hL := fun ty w => hI.len ty w
      have hm6 := hS6.mod
      clear hS5 hS6 hI
      go_wp2_with fail
      go_ret
      exact ⟨rfl, hm6⟩
end Go.Proofs.Ytgoiifffpdednaa
