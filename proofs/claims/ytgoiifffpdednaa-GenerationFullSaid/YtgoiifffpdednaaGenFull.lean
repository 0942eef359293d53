/- GenerationFull: the walk of the law. -/
import Derived.Test.YtgoiifffpdednaaGenS
namespace Go.Proofs.Ytgoiifffpdednaa
open Go Go.RowKit Go.Stg

theorem liveC_take (S : List Slot) (k : Nat) (h : k < S.length) : liveC (S.take (k + 1)) = liveC (S.take k) + if (slotN S k).2 then 1 else 0 := by
  unfold liveC
  rw [List.take_succ_eq_append_getElem h, List.countP_append, List.countP_singleton, slotN_at h]
theorem liveC_le (S : List Slot) : liveC S ≤ S.length := List.countP_le_length
theorem liveN_nat (S : List Slot) (k : Nat) : liveN S (k : Int) = (slotN S k).2 := by simp [liveN]
theorem issV_full (first : Int) (x : GS) (d : Int) : ∃ a b, issV first x d = .tuple #[.int .i64 a, .int .i64 b, .int .i64 (if x.F.length = 0 then 17 else 0)] := by
  unfold issV
  by_cases h : 0 < x.F.length
  · rw [if_pos h, if_neg (by omega)]; exact ⟨_, _, rfl⟩
  · rw [if_neg h, if_pos (by omega)]; exact ⟨_, _, rfl⟩
set_option maxHeartbeats 4000000 in
set_option maxRecDepth 10000 in
theorem full_walk (nu f : Int) (sv : Value) (xs : List X2) (n0 : 0 ≤ nu) (n1 : nu ≤ 255) (f0 : 0 ≤ f) (f1 : f ≤ 255) (w : World) (hs : StepsAt w sv xs) :
    Calls Try.prog 6 #[.int .u8 nu, .int .u8 f, sv] w fun e w' => e = .returned (.bool true) ∧ Mod [] w w' := by
  have hln := fun ty w => hs.len ty w
  have hlm := hs.small
  obtain ⟨n, hn⟩ := Int.eq_ofNat_of_zero_le (show 0 ≤ nu % 8 by omega)
  have hn7 : n ≤ 7 := by omega
  obtain ⟨hf1, hf2⟩ := firstP_in f f0 f1
  have hsH := Lib.hid hs
  have hF := Lib.hid (first_any f f0 f1 w)
  generalize firstP f = first at *
  have hI0 := Lib.hid (GInv.start n first)
  clear hs
  go_enter Try.func6, Try.ntmps6
  go_wp2_with fail
  refine hF.out.mono ?_
  rintro e w1 ⟨rfl, hm1⟩
  clear hF
  go_wp2_with fail
  refine (Sl_new n first (by omega) hf1 hf2 w1).mono ?_
  rintro e w2 ⟨b, pb, sl, rfl, hS⟩
  go_wp2_with fail
  have hS0 := hS
  have hI := hI0.out
  clear hI0
  go_loopw [9] (fun i wr => ∃ k : Nat, k ≤ xs.length ∧ k ≤ 40 ∧ i = .int .i64 k ∧ ∃ x : GS, Sl w1 b pb sl first x.S x.F x.ret wr ∧ GInv n first x) (fun i _ => 40 - (intOf i).toNat)
  case atStart => exact ⟨0, by omega, by omega, rfl, ⟨_, _, _⟩, hS, hI⟩
  case round =>
    obtain ⟨k, hk1, hk2, rfl, x, hSx, hG⟩ := hrel
    clear hS hS0 hI
    by_cases hlt : k < xs.length
    · by_cases hlt2 : k < 40
      · have hGH := Lib.hid hG
        have hlen := hG.len
        have hLn := liveC_le x.S
        have hcnt := hG.cnt
        have hret := hG.ret0
        clear hG
        have hk40 : decide ((k : Int) < 40) = true := by rw [decide_eq_true_eq]; omega
        go_wp2_with fail
        go_loopw [10, 11] (fun lv kv wr => ∃ q : Nat, q ≤ n ∧ kv = .int .i64 q ∧ lv = .int .i64 (liveC (x.S.take q)) ∧ Sl w1 b pb sl first x.S x.F x.ret wr) (fun _ kv _ => n - (intOf kv).toNat)
        case atStart => exact ⟨0, by omega, rfl, by simp [liveC], hSx⟩
        case round =>
          obtain ⟨q, hq, rfl, rfl, hSq⟩ := hrel
          clear hSx
          have hLq := liveC_le (x.S.take q)
          rw [List.length_take] at hLq
          go_wp2_with fail
          refine (Sl_size hSq).mono ?_
          rintro e w4 ⟨rfl, hS4⟩
          clear hSq
          by_cases hqn : q < n
          · have hlq := liveC_take x.S q (by omega)
            go_wp2_with fail
            refine (Sl_livex hS4 q).mono ?_
            rintro e w5 ⟨rfl, hS5⟩
            rw [liveN_nat]
            clear hS4
            cases hsl : (slotN x.S q).2 with
            | true =>
              rw [hsl] at hlq
              go_wp2_with fail
              go_roundw
              case rel => exact ⟨q + 1, by omega, by go_num, by rw [hlq]; go_num, hS5⟩
              case measure => simp [intOf]; omega
            | false =>
              rw [hsl] at hlq
              go_wp2_with fail
              go_roundw
              case rel => exact ⟨q + 1, by omega, by go_num, by rw [hlq]; rfl, hS5⟩
              case measure => simp [intOf]; omega
          · obtain rfl : n = q := by omega
            rw [List.take_of_length_le (Nat.le_of_eq hlen)]
            clear hLq
            go_wp2_with fail
            refine (Sl_retired hS4).mono ?_
            rintro e w5 ⟨rfl, hS5⟩
            clear hS4
            go_wp2_with fail
            refine (Sl_pool hS5).mono ?_
            rintro e w6 ⟨pv, rfl, hS6, hIn⟩
            have hpl := fun ty w => hIn.len ty w
            clear hS5 hIn
            have hsum : (liveC x.S : Int) + x.ret + x.F.length = n := by omega
            have hsr := hsH.out.mod (hm1.nil_then hS6.mod)
            rcases hsr with ⟨_, rfl⟩ | ⟨sb, so, cap, rfl, h2, h3, h4⟩
            · simp at hlt
            · obtain ⟨⟨⟨a0, a1⟩, b0, b1⟩, c0, c1⟩ := h4 k hlt
              clear h4 hsH
              generalize hx0 : xs[k] = x0 at *
              clear hx0
              rcases x0 with ⟨xa, xb⟩
              simp only at a0 a1 b0 b1 c0 c1
              by_cases h3 : xa % 3 = 0
              · go_wp2_with fail
                refine (Sl_ends hS6 hGH.out (by omega) (xb % 8)).mono ?_
                rintro e w7 ⟨rfl, hS7⟩
                have hG7 := hGH.out.endd (xb % 8)
                go_wp2_with fail
                go_roundw
                case rel => exact ⟨k + 1, by omega, by omega, by go_num, _, hS7, hG7⟩
                case measure => simp [intOf]; omega
              · go_wp2_with fail
                refine (Sl_iss hS6 hGH.out hf1 hf2 xb b0 (by omega)).mono ?_
                obtain ⟨a, g, hV⟩ := issV_full first x xb
                rw [hV]
                rintro e w7 ⟨rfl, hS7⟩
                have hG7 := hGH.out.issue hf1 hf2 xb
                clear hV hS6
                have hr7 : (issG first x xb).ret = x.ret := by unfold issG; split <;> rfl
                rw [hr7] at hS7
                have hdone : ∀ w9, Sl w1 b pb sl first (issG first x xb).S (issG first x xb).F x.ret w9 → Sl w1 b pb sl first (issG first x xb).S (issG first x xb).F (issG first x xb).ret w9 := fun w9 h => by rw [hr7]; exact h
                by_cases hz : x.F.length = 0
                · rw [if_pos hz]
                  have hz2 : ((liveC x.S : Int) + x.ret == n) = true := by rw [beq_iff_eq]; omega
                  go_wp2_with fail
                  refine (Sl_retired hS7).mono ?_
                  rintro e w8 ⟨rfl, hS8⟩
                  clear hS7
                  go_wp2_with fail
                  refine ⟨⟨k + 1, by omega, by omega, by go_num, issG first x xb, hdone _ hS8, hG7⟩, ?_⟩
                  simp [intOf]; omega
                · rw [if_neg hz]
                  have hz2 : decide ((liveC x.S : Int) + x.ret = n) = false := by rw [decide_eq_false_iff_not]; omega
                  go_wp2_with fail
                  refine (Sl_retired hS7).mono ?_
                  rintro e w8 ⟨rfl, hS8⟩
                  clear hS7
                  go_wp2_with fail
                  go_roundw
                  case rel => exact ⟨k + 1, by omega, by omega, by go_num, issG first x xb, hdone _ hS8, hG7⟩
                  case measure => simp [intOf]; omega
      · have hm := hSx.mod
        clear hSx
        go_wp2_with fail
        refine (awake_ok _).mono ?_
        rintro e w3 ⟨rfl, hm3⟩
        go_wp2_with fail
        go_ret
        exact ⟨rfl, (hm1.nil_then hm).nil_then hm3⟩
    · have hm := hSx.mod
      clear hSx
      go_wp2_with fail
      refine (awake_ok _).mono ?_
      rintro e w3 ⟨rfl, hm3⟩
      go_wp2_with fail
      go_ret
      exact ⟨rfl, (hm1.nil_then hm).nil_then hm3⟩
end Go.Proofs.Ytgoiifffpdednaa
