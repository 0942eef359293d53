/- Borrows: the definition's ledger: Lend, Release, Access; SameBorrows. -/
import Derived.Test.YtappkiiihnaegaaBDefP
import Derived.Test.YtappkiiihnaegaaBEnd
namespace Go.Proofs.Ytappkiiihnaegaa
open Go Go.RowKit Go.Stg

theorem RLedAt.mod {w w' : World} {rb : Nat} {L : List Bor} {f : List Nat} (h : RLedAt w rb L f) (hm : Mod [] w w') : RLedAt w' rb L f := (rledC rb L).keep h hm (by simp)
theorem rof_c {w : World} {rb : Nat} {L : List Bor} {f : List Nat} (h : RLedAt w rb L f) (hl : L.length ≤ 1000000) (o : Int) : Calls Try.prog 36 #[.pointer (some ⟨rb, 0, none⟩), .int .i64 o] w fun e w' => ∃ u, e = .returned u ∧ w'.ownsRow w.heap.size 25 4 u (ofO L o).length (flat bcell (ofO L o)) ∧ Mod [] w w' :=
  let ⟨_, h1, h2, _⟩ := h.parts; rof_ok h1 h2 hl o
theorem rholds_c {w : World} {rb : Nat} {L : List Bor} {f : List Nat} (h : RLedAt w rb L f) (hl : L.length ≤ 1000000) (o k : Int) : Calls Try.prog 35 #[.pointer (some ⟨rb, 0, none⟩), .int .i64 o, .int .i64 k] w fun e w' => e = .returned (foundV (getB L (o, k))) ∧ Mod [] w w' :=
  let ⟨_, h1, h2, _⟩ := h.parts; rholds_ok h1 h2 hl o k
theorem Takes.after {c' : Comp} {v u : Value} {w w1 w' : World} {f : List Nat} {e : Ending} (hm : Mod [] w w1) (h : Takes c' v w1 f e w') : Takes c' u w f (.returned u) w' := by
  obtain ⟨f', _, k1, k2, k3⟩ := h
  exact ⟨f', rfl, k1, (hm.mono (by simp)).then k2 (fun x hx => .inl hx), fun x hx => (k3 x hx).imp id (fun h => Nat.le_trans hm.size h)⟩
theorem cnt_got (L : List Bor) (k : Int × Int) : cntOf L k = (gotB L k).2.2 := by
  unfold cntOf gotB
  cases getB L k <;> rfl
theorem cntOf_le {L : List Bor} {N : Int} (hI : LInv N L) (h0 : 0 ≤ N) (hN : N ≤ 1000000) (k : Int × Int) : 0 ≤ cntOf L k ∧ cntOf L k ≤ 1000000 := by have := cntOf_range hI h0 k; omega
/-- A row of one or more borrows: the mode of the first. -/
theorem row_mode {w : World} {base : Nat} {v : Value} {x : Bor} {l : List Bor} (h : w.ownsRow base 25 4 v (x :: l).length (flat bcell (x :: l))) : ∃ g cap, v = .slice (some ⟨g, 0, none⟩) (x :: l).length cap ∧ w.cell? ⟨g, 2, none⟩ = some (.int .i64 x.2.1) := by
  obtain ⟨g, cap, rfl, hg1, hg2⟩ := row_pos h (by simp)
  exact ⟨g, cap, rfl, h.cellAt 2 (by simp; omega)⟩
set_option maxHeartbeats 1600000 in
theorem rlend_ok {w : World} {rb : Nat} {L : List Bor} {f : List Nat} (h : (rledC rb L).on w f) {N : Int} (hI : LInv N L) (h0 : 0 ≤ N) (hN : N ≤ 1000000) (hl : L.length ≤ 1000000) (o k m : Int) :
    Calls Try.prog 23 #[.pointer (some ⟨rb, 0, none⟩), .int .i64 o, .int .i64 k, .int .i64 m] w (Takes (rledC rb (lendL L o k m)) (.int .i64 (lendE L o m)) w f) := by
  have hhH := Lib.hid h
  by_cases hm12 : m ≠ 1 ∧ m ≠ 2
  · have hE : lendE L o m = 1 := by unfold lendE; rw [if_pos hm12]
    have hL : lendL L o k m = L := by unfold lendL; rw [hE]; rfl
    rw [hE, hL]
    have z1 : (m != 1) = true := by simpa using hm12.1
    have z2 : (m != 2) = true := by simpa using hm12.2
    clear h hI hE hL hm12
    go_enter Try.func23, Try.ntmps23
    go_wp2_with fail
    go_ret
    exact Takes.same hhH.out (Mod.refl _ _)
  · have hof := Lib.hid (rof_c h hl o)
    have hm12' : m = 1 ∨ m = 2 := by omega
    by_cases hE : lendE L o m = 0
    · have hLL := lend_put (k := k) hE rfl
      rw [hE, hLL]
      have hc := cntOf_le hI h0 hN (o, k)
      rw [cnt_got] at hc ⊢
      have hho := Lib.hid fun w' (hm : Mod [] w w') => rholds_c (RLedAt.mod h hm) hl o k
      have hhoe : foundV (getB L (o, k)) = .tuple #[bv (gotB L (o, k)), .bool (getB L (o, k)).isSome] := foundV_eq _
      have hput := Lib.hid fun w' (hm : Mod [] w w') (n : Int) => rput_ok (RLedAt.mod h hm) hI.srt hl o k m n
      have hcond : modeO L o = 0 ∨ (modeO L o = 1 ∧ m = 1) := by
        have hr := modeO_range hI o
        unfold lendE at hE; rw [if_neg hm12] at hE
        split at hE
        · cases hE
        · omega
      have hz0 := modeO_zero hI o
      generalize gotB L (o, k) = x at *
      generalize (getB L (o, k)).isSome = fl at *
      obtain ⟨⟨xo, xk⟩, xm, xc⟩ := x
      simp only at hc
      have hhoeH := Lib.hid hhoe
      have hmc := fun b l (h : ofO L o = b :: l) => modeO_cons h
      clear hhoe h hI hE hm12
      cases hof1 : ofO L o with
      | nil =>
        rw [hof1] at hof
        clear hmc hz0 hof1 hcond
        rcases hm12' with rfl | rfl
        all_goals
          go_enter Try.func23, Try.ntmps23
          go_wp2_with fail
          refine hof.out.mono ?_
          rintro e w1 ⟨u, rfl, hr, hm1⟩
          have hln := fun ty w' => row_len (ty := ty) Try.underlying36 hr w'
          simp only [List.length_nil] at hln
          obtain ⟨ua, ul, uc, rfl⟩ := row_slice hr
          have hm1H := Lib.hid hm1
          clear hr hm1
          go_wp2_with fail
          refine (hho.out _ hm1H.out).mono ?_
          rw [hhoeH.out]
          unfold bv
          rintro e w2 ⟨rfl, hm2⟩
          have hm2H := Lib.hid (hm1H.out.nil_then hm2)
          clear hm2 hln
          go_wp2_with fail
          have hm3 := Lib.hid (hm2H.out.alloc (.cells #[.int .i64 xo, .int .i64 xk, .int .i64 xm, .int .i64 xc] 25))
          refine (hput.out _ hm3.out (xc + 1)).mono ?_
          rintro e w3 hT
          obtain ⟨f', rfl, hT⟩ := hT
          have hT := Takes.after (v := .tuple #[]) (u := .int .i64 0) hm3.out ⟨f', rfl, hT⟩
          have hTH := Lib.hid hT
          clear hT
          go_wp2_with fail
          go_ret
          exact hTH.out
      | cons b l =>
        have hmo := hmc b l hof1
        rw [hof1] at hof
        have hne : modeO L o ≠ 0 := fun e => by rw [hz0.1 e] at hof1; cases hof1
        obtain ⟨h1, rfl⟩ := hcond.resolve_left hne
        rw [hmo] at h1
        obtain ⟨⟨bo, bk⟩, bm, bc⟩ := b
        simp only at h1
        subst h1
        clear hmc hz0 hof1 hcond hmo hne
        go_enter Try.func23, Try.ntmps23
        go_wp2_with fail
        refine hof.out.mono ?_
        rintro e w1 ⟨u, rfl, hr, hm1⟩
        obtain ⟨g, cap, rfl, hcell⟩ := row_mode hr
        have hcap : 0 < l.length + 1 := by omega
        have hm1H := Lib.hid hm1
        clear hr hm1
        go_wp2_with fail
        refine (hho.out _ hm1H.out).mono ?_
        rw [hhoeH.out]
        unfold bv
        rintro e w2 ⟨rfl, hm2⟩
        have hm2H := Lib.hid (hm1H.out.nil_then hm2)
        clear hm2 hcell
        go_wp2_with fail
        have hm3 := Lib.hid (hm2H.out.alloc (.cells #[.int .i64 xo, .int .i64 xk, .int .i64 xm, .int .i64 xc] 25))
        refine (hput.out _ hm3.out (xc + 1)).mono ?_
        rintro e w3 hT
        obtain ⟨f', rfl, hT⟩ := hT
        have hT := Takes.after (v := .tuple #[]) (u := .int .i64 0) hm3.out ⟨f', rfl, hT⟩
        have hTH := Lib.hid hT
        clear hT
        go_wp2_with fail
        go_ret
        exact hTH.out
    · have hE2 : lendE L o m = 14 := by unfold lendE at hE ⊢; rw [if_neg hm12] at hE ⊢; split at hE <;> simp_all
      have hL : lendL L o k m = L := by unfold lendL; rw [if_neg hE]
      have hc : modeO L o = 2 ∨ (modeO L o ≠ 0 ∧ m = 2) := by
        unfold lendE at hE; rw [if_neg hm12] at hE
        split at hE
        · assumption
        · exact absurd rfl hE
      rw [hE2, hL]
      cases hof1 : ofO L o with
      | nil => exact absurd hc (by unfold modeO; rw [hof1]; simp)
      | cons b l =>
        rw [hof1] at hof
        have hmo := modeO_cons hof1
        have hr := modeO_range hI o
        rw [hmo] at hc hr
        obtain ⟨⟨bo, bk⟩, bm, bc⟩ := b
        simp only at hc hr
        clear h hI hE hL hE2 hm12 hof1 hmo
        rcases hm12' with rfl | rfl <;> rcases hr with rfl | rfl | rfl <;> simp at hc
        all_goals
          go_enter Try.func23, Try.ntmps23
          go_wp2_with fail
          refine hof.out.mono ?_
          rintro e w1 ⟨u, rfl, hr, hm1⟩
          obtain ⟨g, cap, rfl, hcell⟩ := row_mode hr
          have hcap : 0 < l.length + 1 := by omega
          have hm1H := Lib.hid hm1
          clear hr hm1
          go_wp2_with fail
          go_ret
          exact Takes.same hhH.out hm1H.out
set_option maxHeartbeats 1600000 in
theorem rrelease_ok {w : World} {rb : Nat} {L : List Bor} {f : List Nat} (h : (rledC rb L).on w f) {N : Int} (hI : LInv N L) (hN : N ≤ 1000000) (hl : L.length ≤ 1000000) (o k : Int) :
    Calls Try.prog 24 #[.pointer (some ⟨rb, 0, none⟩), .int .i64 o, .int .i64 k] w (Takes (rledC rb (relL L (o, k))) (.int .i64 (relE L (o, k))) w f) := by
  have hho := rholds_c h hl o k
  have hhH := Lib.hid h
  cases hg : getB L (o, k) with
  | none =>
    rw [hg] at hho
    rw [relE_none hg, relL_none hg]
    have hhoH := Lib.hid hho
    clear hho h hI hg
    go_enter Try.func24, Try.ntmps24
    go_wp2_with fail
    refine hhoH.out.mono ?_
    unfold foundV bv b0
    rintro e w1 ⟨rfl, hm1⟩
    have hm1H := Lib.hid hm1
    clear hm1
    go_wp2_with fail
    go_ret
    exact Takes.same hhH.out (by repeat (first | exact hm1H.out | refine Mod.alloc ?_ _))
  | some x =>
    obtain ⟨⟨xo, xk⟩, m, c0⟩ := x
    have hk := (getB_some hg).2
    simp only [Prod.mk.injEq] at hk
    obtain ⟨rfl, rfl⟩ := hk
    have h1 := hI.one _ (getB_some hg).1
    simp only at h1
    rw [hg] at hho
    rw [relE_some hg]
    have hhoH := Lib.hid hho
    by_cases hc1 : c0 = 1
    · subst hc1
      rw [relL_last hg]
      have hwo := Lib.hid fun w' (hm : Mod [] w w') => (let ⟨_, h1, h2, _⟩ := RLedAt.parts (RLedAt.mod h hm); rwithout_ok h1 h2 hl xo xk)
      obtain ⟨v, hb, -, -⟩ := RLedAt.parts h
      have hbH := Lib.hid hb
      clear hho h hI hg hb
      go_enter Try.func24, Try.ntmps24
      go_wp2_with fail
      refine hhoH.out.mono ?_
      unfold foundV bv
      rintro e w1 ⟨rfl, hm1⟩
      have hm2 := Lib.hid (hm1.alloc (.cells #[.int .i64 xo, .int .i64 xk, .int .i64 m, .int .i64 0] 25))
      clear hm1
      go_wp2_with fail
      refine (hwo.out _ hm2.out).mono ?_
      rintro e w3 ⟨u, rfl, hr, hm3⟩
      have hmm := Lib.hid (hm2.out.nil_then hm3)
      have hcb := cells_of (hmm.out.at hbH.out (by simp))
      have hfb := frozen_of (hmm.out.at hbH.out (by simp))
      obtain ⟨ua, ul, uc, rfl⟩ := row_slice hr
      have hT := Lib.hid (rled_set (val := .int .i64 0) hhH.out hmm.out (row_base hr hm2.out.size))
      clear hr hm3
      go_wp2_with fail
      go_ret
      exact hT.out
    · rw [relL_less hg hc1]
      have hz : (c0 - 1 == 0) = false := by simp; omega
      have hput := Lib.hid fun w' (hm : Mod [] w w') (n : Int) => rput_ok (RLedAt.mod h hm) hI.srt hl xo xk m n
      clear hho h hI hg
      go_enter Try.func24, Try.ntmps24
      go_wp2_with fail
      refine hhoH.out.mono ?_
      unfold foundV bv
      rintro e w1 ⟨rfl, hm1⟩
      have hm3 := Lib.hid (hm1.alloc (.cells #[.int .i64 xo, .int .i64 xk, .int .i64 m, .int .i64 (c0 - 1)] 25))
      clear hm1
      go_wp2_with fail
      refine (hput.out _ hm3.out (c0 - 1)).mono ?_
      rintro e w3 hT
      obtain ⟨f', rfl, hT⟩ := hT
      have hT := Takes.after (v := .tuple #[]) (u := .int .i64 0) hm3.out ⟨f', rfl, hT⟩
      have hTH := Lib.hid hT
      clear hT
      go_wp2_with fail
      go_ret
      exact hTH.out
end Go.Proofs.Ytappkiiihnaegaa
