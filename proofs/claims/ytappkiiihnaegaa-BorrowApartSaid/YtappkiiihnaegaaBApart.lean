/- BorrowApart: the walk of the law. -/
import Derived.Test.YtappkiiihnaegaaBLaw
import Derived.Test.YtappkiiihnaegaaBSteps
namespace Go
namespace Stg
/-- A part comes to the front. -/
theorem Hold.front : ∀ {cs : List Comp} {w : World} {fp : List Nat} (i : Nat) {c : Comp}, Hold cs w fp → cs[i]? = some c → ∃ fp', Hold (c :: cs.eraseIdx i) w fp' ∧ ∀ x ∈ fp', x ∈ fp
  | [], _, _, _, _, _, hi => by simp at hi
  | c0 :: cs, w, fp, 0, c, h, hi => by
    obtain rfl : c0 = c := by simpa using hi
    exact ⟨fp, h, fun _ hx => hx⟩
  | c0 :: cs, w, fp, i + 1, c, ⟨f, g, h1, h2, h3, e⟩, hi => by
    subst e
    obtain ⟨g', ⟨f1, g1, k1, k2, k3, rfl⟩, k4⟩ := Hold.front i h2 (by simpa using hi)
    refine ⟨f1 ++ (f ++ g1), ⟨f1, f ++ g1, k1, ⟨f, g1, h1, k2, fun x hx hg => h3 x hx (k4 x (by simp [hg])), rfl⟩, fun x hx hg => ?_, rfl⟩, fun x hx => ?_⟩
    · rcases List.mem_append.1 hg with h | h
      · exact h3 x h (k4 x (by simp [hx]))
      · exact k3 x hx h
    · simp only [List.mem_append] at hx ⊢
      rcases hx with h | h | h
      · exact .inr (k4 x (by simp [h]))
      · exact .inl h
      · exact .inr (k4 x (by simp [h]))
theorem Scene.front {F : List Nat} {W w : World} {cs : List Comp} (i : Nat) {c : Comp} (h : Scene F W cs w) (hi : cs[i]? = some c) : Scene F W (c :: cs.eraseIdx i) w := by
  obtain ⟨h1, fp, h2, h3⟩ := h
  obtain ⟨fp', k1, k2⟩ := Hold.front i h2 hi
  exact ⟨h1, fp', k1, fun x hx => h3 x (k2 x hx)⟩
end Stg
end Go
namespace Go.Proofs.Ytappkiiihnaegaa
open Go Go.RowKit Go.Stg

theorem ofO_cut {L : List Bor} {o q : Int} (h : o ≠ q) : ofO (cut L fun x => decide (x.1.1 = o)) q = ofO L q := by
  unfold ofO cut
  rw [List.filter_filter]
  apply List.filter_congr
  intro b _
  by_cases hb : b.1.1 = q
  · have : b.1.1 ≠ o := fun e => h (e.symm.trans hb)
    simp [hb, Ne.symm h]
  · simp [hb]
theorem ofO_without_other (L : List Bor) {k : Int × Int} {q : Int} (h : k.1 ≠ q) : ofO (without L k) q = ofO L q := by
  unfold ofO without
  rw [List.filter_filter]
  apply List.filter_congr
  intro b _
  by_cases hb : b.1.1 = q
  · have : b.1 ≠ k := fun e => h (by rw [← e]; exact hb)
    simp [hb, this]
  · simp [hb]
theorem ofO_put_other {L : List Bor} (hS : Srt L) {b : Bor} {q : Int} (h : b.1.1 ≠ q) : ofO (putB L b) q = ofO L q := by
  refine Srt.unique ((put_srt hS b).filter _) (hS.filter _) ?_
  have h1 := ofO_perm (put_perm L b) q
  have h2 : ofO (b :: without L b.1) q = ofO (without L b.1) q := by
    show List.filter _ _ = _
    rw [List.filter_cons_of_neg (by simpa using h)]
    rfl
  rw [h2, ofO_without_other L h] at h1
  exact h1
theorem step_apart {L : List Bor} (hS : Srt L) {xa xb xc xd : Int} (ha : xa % 12 ≠ 1) {q : Int} (hq : xb % 4 ≠ q) : ofO (stepL xa xb xc xd L) q = ofO L q := by
  unfold stepL
  split
  · exact ofO_cut hq
  · split
    · unfold relL
      cases hg : getB L (xb % 4, xc % 4) with
      | none => rfl
      | some b =>
        simp only
        split
        · exact ofO_without_other L hq
        · exact ofO_put_other hS hq
    · unfold lendL
      generalize (if xd % 4 = 0 then xd / 4 % 4 else 1) = md
      split
      · exact ofO_put_other hS hq
      · rfl
set_option maxHeartbeats 8000000 in
set_option maxRecDepth 20000 in
theorem apart_walk (sv : Value) (xs : List X4) (mv : Value) (ys : List X4) (w : World) (hs : Steps4At w sv xs) (ht : Steps4At w mv ys) :
    Calls Try.prog 5 #[sv, mv] w fun e w' => e = .returned (.bool true) ∧ Mod [] w w' := by
  have hln := fun ty w => hs.len ty w
  have hlm := hs.small
  have hln2 := fun ty w => ht.len ty w
  have hlm2 := ht.small
  have hsH := Lib.hid hs
  have htH := Lib.hid ht
  clear hs ht
  go_enter Try.func5, Try.ntmps5
  go_wp2_with fail
  refine (new_sc (Scene.empty w)).mono ?_
  rintro e w1 ⟨rfl, hS1⟩
  generalize w.heap.size = b at *
  have hS2 := Lib.hid (rled_alloc hS1).swap
  clear hS1
  go_wp2_with fail
  generalize w1.heap.size = q at *
  generalize w1.alloc (.cells #[.slice none 0 0] 38) = w2 at *
  go_loopw [7] (fun i wr => ∃ (k : Nat) (L : List Bor), k ≤ xs.length ∧ k ≤ 20 ∧ i = .int .i64 k ∧ Scene [] w [ledC b L, rledC q L] wr ∧ BInv k L) (fun i _ => 20 - (intOf i).toNat)
  case atStart => exact ⟨0, [], by omega, by omega, rfl, hS2.out, BInv.nil⟩
  case round =>
    obtain ⟨k, L, hk1, hk2, rfl, hSx, hI⟩ := hrel
    have hSH := Lib.hid hSx
    have hIH := Lib.hid hI
    clear hS2 hSx hI
    by_cases hgo : k < xs.length ∧ k < 20
    · obtain ⟨hlt, hlt2⟩ := hgo
      have hk40 : decide ((k : Int) < 20) = true := by rw [decide_eq_true_eq]; omega
      rcases hsH.out with ⟨_, rfl⟩ | ⟨sb, so, cap, rfl, h2, h3, h4⟩
      · simp at hlt
      · obtain ⟨⟨a0, b0, e0, d0⟩, c0, c1, c2, c3⟩ := h4 k hlt
        clear h4
        have c0 := (cell_mod hSH.out.mod h2 (by simp)).trans c0
        have c1 := (cell_mod hSH.out.mod h2 (by simp)).trans c1
        have c2 := (cell_mod hSH.out.mod h2 (by simp)).trans c2
        have c3 := (cell_mod hSH.out.mod h2 (by simp)).trans c3
        generalize hx0 : xs[k] = x0 at *
        clear hx0
        rcases x0 with ⟨xa, xb, xc, xd⟩
        simp only at a0 b0 e0 d0 c0 c1 c2 c3
        go_wp2_with fail
        refine (step_ok hSH.out hIH.out (by omega) xa xb xc xd a0 b0 e0 d0).mono ?_
        rintro e w3 ⟨rfl, hS3⟩
        have hS3H := Lib.hid hS3
        have hI2 := Lib.hid (hIH.out.step xa xb xc xd)
        clear hS3 c0 c1 c2 c3 hSH hIH
        go_wp2_with fail
        go_roundw
        case rel => exact ⟨k + 1, _, by omega, by omega, by go_num, hS3H.out, hI2.out⟩
        case measure => simp [intOf]; omega
    · have hstop : (decide ((k : Int) < (xs.length : Int)) && decide ((k : Int) < 20)) = false := by
        rw [Bool.and_eq_false_iff, decide_eq_false_iff_not, decide_eq_false_iff_not]; omega
      have hcase : k = xs.length ∨ (k < xs.length ∧ k = 20) := by omega
      have hgoH := Lib.hid hgo
      clear hgo hstop
      rcases hcase with rfl | ⟨hlt, rfl⟩
      · generalize hkk : xs.length = k at *
        go_wp2_with fail
        refine (sc_of 0 hSH.out hIH.out (by omega) rfl 3).mono ?_
        rintro e w3 ⟨v3, rfl, hr3, hm3⟩
        obtain ⟨oa, ol, oc, rfl⟩ := row_slice hr3
        have hlo : (ofO L 3).length ≤ 1000000 := Nat.le_trans (List.length_filter_le _ _) (Nat.le_trans hIH.out.len (by omega))
        have hS3 : Scene [] w [ledC b L, rledC q L, rowC (.slice oa ol oc) (ofO L 3).length 25 4 (flat bcell (ofO L 3))] w3 := ((hSH.out.add (c := rowC (.slice oa ol oc) (ofO L 3).length 25 4 (flat bcell (ofO L 3))) hm3 ⟨row_base hr3 (Nat.zero_le _), rfl⟩ (fun x hx => (hr3.lt x (by simpa using hx)).1)).front 2 rfl).front 2 rfl
        have hS3H := Lib.hid hS3
        have hI20 : Hid (BInv 20 L) := Lib.hid (hIH.out.up (by omega))
        have hofo := Lib.hid (rfl : ofO L 3 = ofO L 3)
        obtain ⟨M, hM⟩ : ∃ M, M = ofO L 3 := ⟨_, rfl⟩
        rw [← hM] at hS3H hlo
        have hMH := Lib.hid hM
        clear hr3 hm3 hS3 hM hofo
        go_wp2_with fail
        generalize hwr0 : wr = wr0 at *
        clear hwr0
        go_loopw [9] (fun i wr => ∃ (t : Nat) (L' : List Bor), t ≤ ys.length ∧ t ≤ 20 ∧ i = .int .i64 t ∧ Scene [] w [ledC b L', rledC q L', rowC (.slice oa ol oc) M.length 25 4 (flat bcell M)] wr ∧ BInv (20 + t) L' ∧ ofO L' 3 = M) (fun i _ => 20 - (intOf i).toNat)
        case atStart => exact ⟨0, L, by omega, by omega, rfl, hS3H.out, hI20.out, hMH.out.symm⟩
        case round =>
          obtain ⟨t, L', ht1, ht2, rfl, hT, hJ, hof⟩ := hrel
          have hTH := Lib.hid hT
          have hJH := Lib.hid hJ
          have hofH := Lib.hid hof
          clear hT hJ hof hS3H hI20 hSH hIH hMH
          by_cases hgo2 : t < ys.length ∧ t < 20
          · obtain ⟨htl, htl2⟩ := hgo2
            have ht40 : decide ((t : Int) < 20) = true := by rw [decide_eq_true_eq]; omega
            rcases htH.out with ⟨_, rfl⟩ | ⟨sb, so, cap, rfl, h2, h3, h4⟩
            · simp at htl
            · obtain ⟨⟨a0, b0, e0, d0⟩, c0, c1, c2, c3⟩ := h4 t htl
              clear h4
              have c0 := (cell_mod hTH.out.mod h2 (by simp)).trans c0
              have c1 := (cell_mod hTH.out.mod h2 (by simp)).trans c1
              have c2 := (cell_mod hTH.out.mod h2 (by simp)).trans c2
              have c3 := (cell_mod hTH.out.mod h2 (by simp)).trans c3
              generalize hx0 : ys[t] = x0 at *
              clear hx0
              rcases x0 with ⟨xa, xb, xc, xd⟩
              simp only at a0 b0 e0 d0 c0 c1 c2 c3
              by_cases h1 : xa % 12 = 1
              · have z : (xa % 12 != 1) = false := by simp [h1]
                clear h1
                go_wp2_with fail
                go_roundw
                case rel => exact ⟨t + 1, L', by omega, by omega, by go_num, hTH.out.then ((Mod.refl [] _).alloc _), hJH.out.up (by omega), hofH.out⟩
                case measure => simp [intOf]; omega
              · have z : (xa % 12 != 1) = true := by simpa using h1
                have hap := Lib.hid (step_apart hJH.out.inv.srt (xb := xb % 3) (xc := xc) (xd := xd) h1 (q := 3) (by omega))
                clear h1
                go_wp2_with fail
                refine (step_ok (hTH.out.then ((Mod.refl [] _).alloc (.cells #[.int .u8 xa, .int .u8 (xb % 3), .int .u8 xc, .int .u8 xd] 40))) hJH.out (by omega) xa (xb % 3) xc xd a0 (by omega) e0 d0).mono ?_
                rintro e w4 ⟨rfl, hS4⟩
                have hS4H := Lib.hid hS4
                have hI4 := Lib.hid (hJH.out.step xa (xb % 3) xc xd)
                clear hS4 c0 c1 c2 c3
                go_wp2_with fail
                go_roundw
                case rel => exact ⟨t + 1, _, by omega, by omega, by go_num, hS4H.out, hI4.out, hap.out.trans hofH.out⟩
                case measure => simp [intOf]; omega
          · have hcase2 : t = ys.length ∨ (t < ys.length ∧ t = 20) := by omega
            clear hgo2
            rcases hcase2 with rfl | ⟨htl, rfl⟩
            · generalize htt : ys.length = t at *
              go_wp2_with fail
              refine (awake_ok _).mono ?_
              rintro e w5 ⟨rfl, hm5⟩
              have hS6 := Lib.hid (hTH.out.then hm5)
              clear hm5 hTH
              go_wp2_with fail
              refine (sc_of 0 hS6.out hJH.out (by omega) rfl 3).mono ?_
              rw [hofH.out]
              rintro e w7 ⟨v7, rfl, hr7, hm7⟩
              obtain ⟨za, zl, zc, rfl⟩ := row_slice hr7
              have hr7H := Lib.hid hr7
              have hS7 := Lib.hid (hS6.out.then hm7)
              clear hr7 hm7 hS6
              go_wp2_with fail
              refine (same_ok hr7H.out (hS7.out.row 2 rfl) hlo).mono ?_
              rintro e w8 ⟨rfl, hm8⟩
              have hm9 := Lib.hid (hS7.out.then hm8).mod
              clear hm8 hS7
              go_wp2_with fail
              go_ret
              exact ⟨rfl, hm9.out⟩
            · go_wp2_with fail
              refine (awake_ok _).mono ?_
              rintro e w5 ⟨rfl, hm5⟩
              have hS6 := Lib.hid (hTH.out.then hm5)
              clear hm5 hTH
              go_wp2_with fail
              refine (sc_of 0 hS6.out hJH.out (by omega) rfl 3).mono ?_
              rw [hofH.out]
              rintro e w7 ⟨v7, rfl, hr7, hm7⟩
              obtain ⟨za, zl, zc, rfl⟩ := row_slice hr7
              have hr7H := Lib.hid hr7
              have hS7 := Lib.hid (hS6.out.then hm7)
              clear hr7 hm7 hS6
              go_wp2_with fail
              refine (same_ok hr7H.out (hS7.out.row 2 rfl) hlo).mono ?_
              rintro e w8 ⟨rfl, hm8⟩
              have hm9 := Lib.hid (hS7.out.then hm8).mod
              clear hm8 hS7
              go_wp2_with fail
              go_ret
              exact ⟨rfl, hm9.out⟩
      · go_wp2_with fail
        refine (sc_of 0 hSH.out hIH.out (by omega) rfl 3).mono ?_
        rintro e w3 ⟨v3, rfl, hr3, hm3⟩
        obtain ⟨oa, ol, oc, rfl⟩ := row_slice hr3
        have hlo : (ofO L 3).length ≤ 1000000 := Nat.le_trans (List.length_filter_le _ _) (Nat.le_trans hIH.out.len (by omega))
        have hS3 : Scene [] w [ledC b L, rledC q L, rowC (.slice oa ol oc) (ofO L 3).length 25 4 (flat bcell (ofO L 3))] w3 := ((hSH.out.add (c := rowC (.slice oa ol oc) (ofO L 3).length 25 4 (flat bcell (ofO L 3))) hm3 ⟨row_base hr3 (Nat.zero_le _), rfl⟩ (fun x hx => (hr3.lt x (by simpa using hx)).1)).front 2 rfl).front 2 rfl
        have hS3H := Lib.hid hS3
        have hI20 : Hid (BInv 20 L) := Lib.hid (hIH.out.up (by omega))
        have hofo := Lib.hid (rfl : ofO L 3 = ofO L 3)
        obtain ⟨M, hM⟩ : ∃ M, M = ofO L 3 := ⟨_, rfl⟩
        rw [← hM] at hS3H hlo
        have hMH := Lib.hid hM
        clear hr3 hm3 hS3 hM hofo
        go_wp2_with fail
        generalize hwr0 : wr = wr0 at *
        clear hwr0
        go_loopw [9] (fun i wr => ∃ (t : Nat) (L' : List Bor), t ≤ ys.length ∧ t ≤ 20 ∧ i = .int .i64 t ∧ Scene [] w [ledC b L', rledC q L', rowC (.slice oa ol oc) M.length 25 4 (flat bcell M)] wr ∧ BInv (20 + t) L' ∧ ofO L' 3 = M) (fun i _ => 20 - (intOf i).toNat)
        case atStart => exact ⟨0, L, by omega, by omega, rfl, hS3H.out, hI20.out, hMH.out.symm⟩
        case round =>
          obtain ⟨t, L', ht1, ht2, rfl, hT, hJ, hof⟩ := hrel
          have hTH := Lib.hid hT
          have hJH := Lib.hid hJ
          have hofH := Lib.hid hof
          clear hT hJ hof hS3H hI20 hSH hIH hMH
          by_cases hgo2 : t < ys.length ∧ t < 20
          · obtain ⟨htl, htl2⟩ := hgo2
            have ht40 : decide ((t : Int) < 20) = true := by rw [decide_eq_true_eq]; omega
            rcases htH.out with ⟨_, rfl⟩ | ⟨sb, so, cap, rfl, h2, h3, h4⟩
            · simp at htl
            · obtain ⟨⟨a0, b0, e0, d0⟩, c0, c1, c2, c3⟩ := h4 t htl
              clear h4
              have c0 := (cell_mod hTH.out.mod h2 (by simp)).trans c0
              have c1 := (cell_mod hTH.out.mod h2 (by simp)).trans c1
              have c2 := (cell_mod hTH.out.mod h2 (by simp)).trans c2
              have c3 := (cell_mod hTH.out.mod h2 (by simp)).trans c3
              generalize hx0 : ys[t] = x0 at *
              clear hx0
              rcases x0 with ⟨xa, xb, xc, xd⟩
              simp only at a0 b0 e0 d0 c0 c1 c2 c3
              by_cases h1 : xa % 12 = 1
              · have z : (xa % 12 != 1) = false := by simp [h1]
                clear h1
                go_wp2_with fail
                go_roundw
                case rel => exact ⟨t + 1, L', by omega, by omega, by go_num, hTH.out.then ((Mod.refl [] _).alloc _), hJH.out.up (by omega), hofH.out⟩
                case measure => simp [intOf]; omega
              · have z : (xa % 12 != 1) = true := by simpa using h1
                have hap := Lib.hid (step_apart hJH.out.inv.srt (xb := xb % 3) (xc := xc) (xd := xd) h1 (q := 3) (by omega))
                clear h1
                go_wp2_with fail
                refine (step_ok (hTH.out.then ((Mod.refl [] _).alloc (.cells #[.int .u8 xa, .int .u8 (xb % 3), .int .u8 xc, .int .u8 xd] 40))) hJH.out (by omega) xa (xb % 3) xc xd a0 (by omega) e0 d0).mono ?_
                rintro e w4 ⟨rfl, hS4⟩
                have hS4H := Lib.hid hS4
                have hI4 := Lib.hid (hJH.out.step xa (xb % 3) xc xd)
                clear hS4 c0 c1 c2 c3
                go_wp2_with fail
                go_roundw
                case rel => exact ⟨t + 1, _, by omega, by omega, by go_num, hS4H.out, hI4.out, hap.out.trans hofH.out⟩
                case measure => simp [intOf]; omega
          · have hcase2 : t = ys.length ∨ (t < ys.length ∧ t = 20) := by omega
            clear hgo2
            rcases hcase2 with rfl | ⟨htl, rfl⟩
            · generalize htt : ys.length = t at *
              go_wp2_with fail
              refine (awake_ok _).mono ?_
              rintro e w5 ⟨rfl, hm5⟩
              have hS6 := Lib.hid (hTH.out.then hm5)
              clear hm5 hTH
              go_wp2_with fail
              refine (sc_of 0 hS6.out hJH.out (by omega) rfl 3).mono ?_
              rw [hofH.out]
              rintro e w7 ⟨v7, rfl, hr7, hm7⟩
              obtain ⟨za, zl, zc, rfl⟩ := row_slice hr7
              have hr7H := Lib.hid hr7
              have hS7 := Lib.hid (hS6.out.then hm7)
              clear hr7 hm7 hS6
              go_wp2_with fail
              refine (same_ok hr7H.out (hS7.out.row 2 rfl) hlo).mono ?_
              rintro e w8 ⟨rfl, hm8⟩
              have hm9 := Lib.hid (hS7.out.then hm8).mod
              clear hm8 hS7
              go_wp2_with fail
              go_ret
              exact ⟨rfl, hm9.out⟩
            · go_wp2_with fail
              refine (awake_ok _).mono ?_
              rintro e w5 ⟨rfl, hm5⟩
              have hS6 := Lib.hid (hTH.out.then hm5)
              clear hm5 hTH
              go_wp2_with fail
              refine (sc_of 0 hS6.out hJH.out (by omega) rfl 3).mono ?_
              rw [hofH.out]
              rintro e w7 ⟨v7, rfl, hr7, hm7⟩
              obtain ⟨za, zl, zc, rfl⟩ := row_slice hr7
              have hr7H := Lib.hid hr7
              have hS7 := Lib.hid (hS6.out.then hm7)
              clear hr7 hm7 hS6
              go_wp2_with fail
              refine (same_ok hr7H.out (hS7.out.row 2 rfl) hlo).mono ?_
              rintro e w8 ⟨rfl, hm8⟩
              have hm9 := Lib.hid (hS7.out.then hm8).mod
              clear hm8 hS7
              go_wp2_with fail
              go_ret
              exact ⟨rfl, hm9.out⟩
end Go.Proofs.Ytappkiiihnaegaa
