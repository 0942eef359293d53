/- Generations: slots as a state with two steps; the laws' steps; first. -/
import Derived.Test.YtcdmapllligjhaaGenR
namespace Go.Proofs.Ytcdmapllligjhaa
open Go Go.RowKit Go.Stg

structure GS where
  S : List Slot
  F : List Int
  ret : Int
def slotN (S : List Slot) (m : Nat) : Slot := S.getD m (0, false)
theorem slotN_at {S : List Slot} {m : Nat} (h : m < S.length) : slotN S m = S[m] := by simp [slotN, List.getD_eq_getElem?_getD, List.getElem?_eq_getElem h]
theorem slotN_out {S : List Slot} {m : Nat} (h : S.length ≤ m) : slotN S m = (0, false) := by simp [slotN, List.getD_eq_getElem?_getD, List.getElem?_eq_none h]
theorem slotN_set {S : List Slot} {j : Nat} (h : j < S.length) (z : Slot) (m : Nat) : slotN (S.set j z) m = if m = j then z else slotN S m := by
  unfold slotN
  simp only [List.getD_eq_getElem?_getD]
  by_cases e : m = j
  · subst e; simp [h]
  · rw [if_neg e, List.getElem?_set_ne (Ne.symm e)]
def pickI (F : List Int) (d : Int) : Nat := (d % (F.length : Int)).toNat
def pickS (F : List Int) (d : Int) : Nat := (F.getD (pickI F d) 0).toNat
def issG (first : Int) (x : GS) (d : Int) : GS :=
  if h : 0 < x.F.length then ⟨x.S.set (pickS x.F d) (nextG first (slotN x.S (pickS x.F d)).1, true), takeAt x.F (pickI x.F d) h, x.ret⟩ else x
def issV (first : Int) (x : GS) (d : Int) : Value :=
  if 0 < x.F.length then .tuple #[.int .i64 (pickS x.F d), .int .i64 (nextG first (slotN x.S (pickS x.F d)).1), .int .i64 0] else .tuple #[.int .i64 0, .int .i64 0, .int .i64 17]
def liveN (S : List Slot) (k : Int) : Bool := decide (0 ≤ k) && (slotN S k.toNat).2
def endG (x : GS) (k : Int) : GS :=
  if liveN x.S k then
    if (slotN x.S k.toNat).1 = 4294967295 then ⟨x.S.set k.toNat ((slotN x.S k.toNat).1, false), x.F, x.ret + 1⟩
    else ⟨x.S.set k.toNat ((slotN x.S k.toNat).1, false), x.F ++ [k], x.ret⟩
  else x
def endV (x : GS) (k : Int) : Int := if liveN x.S k then 0 else 6
def liveC (S : List Slot) : Nat := S.countP (·.2)
structure GInv (n : Nat) (first : Int) (x : GS) : Prop where
  len : x.S.length = n
  nd : x.F.Nodup
  free : ∀ y ∈ x.F, ∃ m : Nat, y = m ∧ m < n ∧ (slotN x.S m).2 = false ∧ (slotN x.S m).1 < 4294967295
  gens : ∀ m, m < n → (slotN x.S m = (0, false)) ∨ (first ≤ (slotN x.S m).1 ∧ (slotN x.S m).1 ≤ 4294967295)
  cnt : (liveC x.S : Int) + x.F.length + x.ret = n
  ret0 : 0 ≤ x.ret
theorem liveC_set {S : List Slot} {j : Nat} (h : j < S.length) (z : Slot) : liveC (S.set j z) + (if (slotN S j).2 then 1 else 0) = liveC S + (if z.2 then 1 else 0) := by
  unfold liveC
  rw [List.countP_set h, slotN_at h]
  have : S[j].2 = true → 0 < S.countP (·.2) := fun e => List.countP_pos_iff.2 ⟨S[j], List.getElem_mem h, e⟩
  generalize S.countP (·.2) = c at *
  cases hs : S[j].2 <;> cases z.2 <;> simp [hs] at * <;> omega
theorem GInv.start (n : Nat) (first : Int) : GInv n first ⟨fresh n, upTo n, 0⟩ := by
  have hr := RInv.start n first
  have hsl : ∀ m, m < n → slotN (fresh n) m = (0, false) := fun m h => by rw [slotN_at (by rw [fresh_length]; exact h)]; simp [fresh]
  refine ⟨fresh_length n, hr.nd, fun y hy => ?_, fun m h => .inl (hsl m h), ?_, Int.le_refl 0⟩
  · obtain ⟨m, e, h⟩ := hr.free y hy
    exact ⟨m, e, h, by rw [hsl m h], by show (slotN (fresh n) m).1 < 4294967295; rw [hsl m h]; show (0 : Int) < 4294967295; omega⟩
  · have : liveC (fresh n) = 0 := by
      unfold liveC
      rw [List.countP_eq_zero]
      intro a ha
      simp [fresh] at ha
      simp [ha]
    simp [this, upTo_length]
theorem liveV_eq (S : List Slot) (k : Int) : liveV S k = .tuple #[.int .i64 (if liveN S k then (slotN S k.toNat).1 else 0), .bool (liveN S k)] := by
  unfold liveV liveN
  by_cases h0 : 0 ≤ k
  · simp only [h0, decide_true, Bool.true_and, if_true]
    rcases Nat.lt_or_ge k.toNat S.length with h | h
    · rw [slotN_at h, List.getElem?_eq_getElem h]
      rcases hs : S[k.toNat] with ⟨g, l⟩
      cases l <;> simp
    · rw [slotN_out h, List.getElem?_eq_none h]
      simp
  · simp [h0]
theorem liveN_iff {S : List Slot} {k : Int} (h : liveN S k = true) : ∃ j : Nat, k = j ∧ j < S.length ∧ (slotN S j).2 = true := by
  unfold liveN at h
  simp only [Bool.and_eq_true, decide_eq_true_eq] at h
  refine ⟨k.toNat, by omega, ?_, h.2⟩
  rcases Nat.lt_or_ge k.toNat S.length with h' | h'
  · exact h'
  · rw [slotN_out h'] at h; simp at h
section
variable {n : Nat} {first : Int} {x : GS} (h : GInv n first x) (hf1 : 1 ≤ first) (hf2 : first ≤ 4294967295)
include h hf1 hf2
theorem GInv.pick (hn : 0 < x.F.length) (d : Int) : ∃ (hi : pickI x.F d < x.F.length) (hj : pickS x.F d < x.S.length), d % (x.F.length : Int) = pickI x.F d ∧ x.F[pickI x.F d] = (pickS x.F d : Int) ∧ pickS x.F d < n ∧ x.S[pickS x.F d].2 = false ∧ 0 ≤ x.S[pickS x.F d].1 ∧ x.S[pickS x.F d].1 < 4294967295 ∧ (slotN x.S (pickS x.F d)) = x.S[pickS x.F d] := by
  have e1 := Int.emod_nonneg d (show (x.F.length : Int) ≠ 0 by omega)
  have e2 := Int.emod_lt_of_pos d (show (0 : Int) < x.F.length by omega)
  have hp : d % (x.F.length : Int) = pickI x.F d := by unfold pickI; omega
  have hi : pickI x.F d < x.F.length := by omega
  obtain ⟨m, hm, hmn, hd, hl⟩ := h.free x.F[pickI x.F d] (List.getElem_mem hi)
  have hs : pickS x.F d = m := by
    unfold pickS
    rw [List.getD_eq_getElem?_getD, List.getElem?_eq_getElem hi]
    simp [hm]
  have hml : m < x.S.length := by rw [h.len]; exact hmn
  have hg := h.gens m hmn
  rw [slotN_at hml] at hd hl hg
  subst hs
  refine ⟨hi, hml, hp, hm, hmn, hd, ?_, hl, by rw [slotN_at hml]⟩
  rcases hg with e | e
  · rw [e]; exact Int.le_refl 0
  · omega
theorem GInv.issue (d : Int) : GInv n first (issG first x d) := by
  unfold issG
  by_cases hn : 0 < x.F.length
  · rw [dif_pos hn]
    obtain ⟨hi, hj, hp, hF, hjn, hd, hg0, hg1, hsl⟩ := h.pick hf1 hf2 hn d
    generalize pickI x.F d = i at *
    generalize pickS x.F d = j at *
    have hpm := takeAt_perm x.F i hn hi
    rw [hF] at hpm
    have hnd := List.nodup_cons.1 (hpm.nodup_iff.1 h.nd)
    have hmem : ∀ y ∈ takeAt x.F i hn, y ∈ x.F := fun y hy => hpm.mem_iff.2 (List.mem_cons_of_mem _ hy)
    have hlc := liveC_set hj (nextG first (slotN x.S j).1, true)
    rw [hsl, hd] at hlc
    rw [hsl]
    have hlen := takeAt_length x.F i hn
    have hcnt := h.cnt
    refine ⟨by rw [List.length_set]; exact h.len, hnd.2, fun y hy => ?_, fun m hm => ?_, ?_, h.ret0⟩
    · obtain ⟨m, e, h1, h2, h3⟩ := h.free y (hmem y hy)
      have : m ≠ j := fun e' => hnd.1 (by rw [← e', ← e]; exact hy)
      exact ⟨m, e, h1, by rw [slotN_set hj, if_neg this]; exact h2, by show (slotN (x.S.set j _) m).1 < _; rw [slotN_set hj, if_neg this]; exact h3⟩
    · show slotN (x.S.set j _) m = _ ∨ _
      rw [slotN_set hj]
      by_cases e : m = j
      · rw [if_pos e]
        right
        show first ≤ nextG _ _ ∧ nextG _ _ ≤ _
        have := h.gens j hjn
        rw [hsl] at this
        rcases this with e | e
        · rw [e]; simp [nextG]; omega
        · unfold nextG; split <;> omega
      · rw [if_neg e]; exact h.gens m hm
    · show (liveC (x.S.set j _) : Int) + ((takeAt x.F i hn).length : Int) + x.ret = n
      simp at hlc
      omega
  · rw [dif_neg hn]; exact h
omit hf1 hf2 in
theorem GInv.endd (k : Int) : GInv n first (endG x k) := by
  unfold endG
  by_cases hl : liveN x.S k = true
  · rw [if_pos hl]
    obtain ⟨j, rfl, hj, hd⟩ := liveN_iff hl
    rw [Int.toNat_natCast]
    have hjn : j < n := by rw [← h.len]; exact hj
    have hg := h.gens j hjn
    have hg1 : first ≤ (slotN x.S j).1 ∧ (slotN x.S j).1 ≤ 4294967295 := by
      rcases hg with e | e
      · rw [e] at hd; cases hd
      · exact e
    have hlc := liveC_set hj ((slotN x.S j).1, false)
    rw [hd] at hlc
    simp at hlc
    have hcnt := h.cnt
    have hret := h.ret0
    generalize (slotN x.S j).1 = g at *
    have hfr : ∀ y ∈ x.F, ∃ m : Nat, y = m ∧ m ≠ j ∧ m < n ∧ (slotN (x.S.set j (g, false)) m).2 = false ∧ (slotN (x.S.set j (g, false)) m).1 < 4294967295 := fun y hy => by
      obtain ⟨m, e, h1, h2, h3⟩ := h.free y hy
      have : m ≠ j := fun e' => by rw [e', hd] at h2; cases h2
      refine ⟨m, e, this, h1, ?_⟩
      rw [slotN_set hj, if_neg this]
      exact ⟨h2, h3⟩
    have hgens : ∀ m, m < n → (slotN (x.S.set j (g, false)) m = (0, false)) ∨ (first ≤ (slotN (x.S.set j (g, false)) m).1 ∧ (slotN (x.S.set j (g, false)) m).1 ≤ 4294967295) := fun m hm => by
      rw [slotN_set hj]
      by_cases e : m = j
      · rw [if_pos e]; exact .inr hg1
      · rw [if_neg e]; exact h.gens m hm
    have hsl : (x.S.set j (g, false)).length = n := by rw [List.length_set]; exact h.len
    by_cases hm : g = 4294967295
    · rw [if_pos hm]
      exact ⟨hsl, h.nd, fun y hy => let ⟨m, e, _, h1, h2, h3⟩ := hfr y hy; ⟨m, e, h1, h2, h3⟩, hgens, by show (liveC (x.S.set j (g, false)) : Int) + (x.F.length : Int) + (x.ret + 1) = n; omega, by show 0 ≤ x.ret + 1; omega⟩
    · rw [if_neg hm]
      refine ⟨hsl, ?_, fun y hy => ?_, hgens, by show (liveC (x.S.set j (g, false)) : Int) + ((x.F ++ [(j : Int)]).length : Int) + x.ret = n; simp; omega, hret⟩
      · show (x.F ++ [(j : Int)]).Nodup
        rw [List.nodup_append]
        refine ⟨h.nd, by simp, fun y hy z hz e => ?_⟩
        rw [List.mem_singleton.1 hz] at e
        obtain ⟨m, e1, e2, _⟩ := hfr y hy
        omega
      · rcases List.mem_append.1 hy with hy | hy
        · obtain ⟨m, e, _, h1, h2, h3⟩ := hfr y hy
          exact ⟨m, e, h1, h2, h3⟩
        · refine ⟨j, List.mem_singleton.1 hy, hjn, ?_⟩
          show (slotN (x.S.set j (g, false)) j).2 = false ∧ (slotN (x.S.set j (g, false)) j).1 < 4294967295
          rw [slotN_set hj, if_pos rfl]
          exact ⟨rfl, by show g < _; omega⟩
  · rw [if_neg hl]; exact h
end
section
variable {W w : World} {b pb n : Nat} {sl : Value} {first : Int} {x : GS} (hS : Sl W b pb sl first x.S x.F x.ret w) (h : GInv n first x) (hn : n ≤ 4096) (hf1 : 1 ≤ first) (hf2 : first ≤ 4294967295)
include hS
theorem Sl_livex (k : Int) : Calls Try.prog 36 #[.pointer (some ⟨b, 0, none⟩), .int .i64 k] w fun e w' => e = .returned (.tuple #[.int .i64 (if liveN x.S k then (slotN x.S k.toNat).1 else 0), .bool (liveN x.S k)]) ∧ Sl W b pb sl first x.S x.F x.ret w' := by
  rw [← liveV_eq]; exact Sl_live hS k
include h
section
include hf1 hf2
theorem Sl_iss (d : Int) (hd : 0 ≤ d) (hd2 : d ≤ 18446744073709551615) : Calls Try.prog 31 #[.pointer (some ⟨b, 0, none⟩), .int .u64 d] w fun e w' => e = .returned (issV first x d) ∧ Sl W b pb sl first (issG first x d).S (issG first x d).F (issG first x d).ret w' := by
  unfold issG issV
  by_cases hn : 0 < x.F.length
  · rw [dif_pos hn, if_pos hn]
    obtain ⟨hi, hj, hp, hF, hjn, hd', hg0, hg1, hsl⟩ := h.pick hf1 hf2 hn d
    rw [hsl]
    refine Sl_issue hS d hd hd2 hn _ hp hi _ hF hj hg0 hg1 _ ?_
    unfold nextG
    by_cases h : x.S[pickS x.F d].1 = 0
    · exact .inl ⟨h, by rw [if_pos h]⟩
    · exact .inr ⟨h, by rw [if_neg h]⟩
  · rw [dif_neg hn, if_neg hn]
    exact Sl_issue_none hS (List.length_eq_zero_iff.1 (by omega)) d
end
include hn
theorem Sl_ends (k : Int) : Calls Try.prog 34 #[.pointer (some ⟨b, 0, none⟩), .int .i64 k] w fun e w' => e = .returned (.int .i64 (endV x k)) ∧ Sl W b pb sl first (endG x k).S (endG x k).F (endG x k).ret w' := by
  unfold endG endV
  by_cases hl : liveN x.S k = true
  · rw [if_pos hl, if_pos hl]
    obtain ⟨j, rfl, hj, hd⟩ := liveN_iff hl
    have hpos : 0 < liveC x.S := by
      rw [slotN_at hj] at hd
      exact List.countP_pos_iff.2 ⟨x.S[j], List.getElem_mem hj, hd⟩
    have hcnt := h.cnt
    have hret := h.ret0
    have he : x.S[j] = ((slotN x.S j).1, true) := by rw [← slotN_at hj, ← hd]
    rw [Int.toNat_natCast]
    by_cases hm : (slotN x.S j).1 = 4294967295
    · rw [if_pos hm]
      exact Sl_end hS j hj _ he _ _ hret (by omega) (by omega) (.inl ⟨hm, rfl, rfl⟩)
    · rw [if_neg hm]
      exact Sl_end hS j hj _ he _ _ hret (by omega) (by omega) (.inr ⟨hm, rfl, rfl⟩)
  · rw [if_neg hl, if_neg hl]
    refine Sl_end_dead hS k ?_
    rw [liveV_eq]
    simp [hl]
end
end Go.Proofs.Ytcdmapllligjhaa
