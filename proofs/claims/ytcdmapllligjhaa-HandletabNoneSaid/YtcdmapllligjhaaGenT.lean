/- Generations: the two steps, with what they leave alone. -/
import Derived.Test.YtcdmapllligjhaaGenS
namespace Go.Proofs.Ytcdmapllligjhaa
open Go Go.RowKit Go.Stg

section
variable {w : World} {b pb n : Nat} {sl psv : Value} {first : Int} {x : GS} (hS : GenAt w b first x.S x.F x.ret sl psv pb) (h : GInv n first x)
include hS
theorem GenPost.same {v : Value} {w' : World} (hm : Mod [] w w') : GenPost v b first x.S x.F x.ret sl psv pb w (.returned v) w' :=
  ⟨psv, rfl, hm.mono (by simp), hS.mod hm (by simp), fun y hy => .inl hy⟩
theorem live_post (k : Int) : Calls Try.prog 36 #[.pointer (some ⟨b, 0, none⟩), .int .i64 k] w fun e w' => e = .returned (.tuple #[.int .i64 (if liveN x.S k then (slotN x.S k.toNat).1 else 0), .bool (liveN x.S k)]) ∧ Mod [] w w' := by
  rw [← liveV_eq]; exact live_ok hS k
include h
theorem iss_post (hf1 : 1 ≤ first) (hf2 : first ≤ 4294967295) (d : Int) (hd : 0 ≤ d) (hd2 : d ≤ 18446744073709551615) : Calls Try.prog 31 #[.pointer (some ⟨b, 0, none⟩), .int .u64 d] w (GenPost (issV first x d) b first (issG first x d).S (issG first x d).F (issG first x d).ret sl psv pb w) := by
  unfold issG issV
  by_cases hn : 0 < x.F.length
  · rw [dif_pos hn, if_pos hn]
    obtain ⟨hi, hj, hp, hF, hjn, hd', hg0, hg1, hsl⟩ := h.pick hf1 hf2 hn d
    rw [hsl]
    refine issue_some hS d hd hd2 hn _ hp hi _ hF hj hg0 hg1 _ ?_
    unfold nextG
    by_cases h : x.S[pickS x.F d].1 = 0
    · exact .inl ⟨h, by rw [if_pos h]⟩
    · exact .inr ⟨h, by rw [if_neg h]⟩
  · rw [dif_neg hn, if_neg hn]
    refine (issue_none hS (List.length_eq_zero_iff.1 (by omega)) d).mono ?_
    rintro e w' ⟨rfl, hm⟩
    exact GenPost.same hS hm
theorem ends_post (hn : n ≤ 4096) (k : Int) : Calls Try.prog 34 #[.pointer (some ⟨b, 0, none⟩), .int .i64 k] w (GenPost (.int .i64 (endV x k)) b first (endG x k).S (endG x k).F (endG x k).ret sl psv pb w) := by
  unfold endG endV
  by_cases hl : liveN x.S k = true
  · rw [if_pos hl, if_pos hl]
    obtain ⟨j, rfl, hj, hd⟩ := liveN_iff hl
    have hpos : 0 < liveC x.S := by
      rw [slotN_at hj] at hd
      exact List.countP_pos_iff.2 ⟨x.S[j], List.getElem_mem hj, hd⟩
    have hcnt := h.cnt
    have hret := h.ret0
    have he : x.S[j] = ((slotN x.S j).1, true) := by rw [← slotN_at hj, ← hd]
    rw [Int.toNat_natCast]
    by_cases hm : (slotN x.S j).1 = 4294967295
    · rw [if_pos hm]
      exact end_live hS j hj _ he _ _ hret (by omega) (by omega) (.inl ⟨hm, rfl, rfl⟩)
    · rw [if_neg hm]
      exact end_live hS j hj _ he _ _ hret (by omega) (by omega) (.inr ⟨hm, rfl, rfl⟩)
  · rw [if_neg hl, if_neg hl]
    refine (end_dead hS k ?_).mono ?_
    · rw [liveV_eq]; simp [hl]
    · rintro e w' ⟨rfl, hm⟩
      exact GenPost.same hS hm
end
theorem apart_grow {A A' B : List Nat} {s : Nat} (h : ∀ y ∈ A, y ∉ B) (hB : ∀ y ∈ B, y < s) (hA : ∀ y ∈ A', y ∈ A ∨ s ≤ y) : ∀ y ∈ A', y ∉ B := fun y hy hb => by
  rcases hA y hy with h' | h'
  · exact h y h' hb
  · have := hB y hb; omega
/-- The blocks of slots, one step on. -/
theorem gfoot_grow {w : World} {b pb : Nat} {sl psv psv' : Value} (hf : ∀ y, psv'.ownBlock = some y → psv.ownBlock = some y ∨ w.heap.size ≤ y) : ∀ y ∈ gfoot b pb sl psv', y ∈ gfoot b pb sl psv ∨ w.heap.size ≤ y := fun y hy => by
  simp only [gfoot, List.mem_cons, List.mem_append, Option.mem_toList] at hy ⊢
  rcases hy with rfl | rfl | hy | hy
  · simp
  · simp
  · simp [hy]
  · rcases hf y hy with h | h
    · exact .inl (.inr (.inr (.inr h)))
    · exact .inr h
theorem row_lt {w : World} {base sz n : Nat} {e : TypeId} {v : Value} {xs : List Value} (h : w.ownsRow base e sz v n xs) : ∀ g, v.ownBlock = some g → base ≤ g ∧ g < w.heap.size := fun g hg => by
  rcases row_cases h with ⟨rfl, _⟩ | ⟨k, cap, rfl, h1, h2, _⟩
  · simp [Value.ownBlock] at hg
  · simp [Value.ownBlock] at hg; subst hg; exact ⟨h1, h2⟩
theorem GenAt.foot_lt {w : World} {b pb : Nat} {first ret : Int} {S : List Slot} {F : List Int} {sl psv : Value} (h : GenAt w b first S F ret sl psv pb) : ∀ y ∈ gfoot b pb sl psv, y < w.heap.size := fun y hy => by
  simp only [gfoot, List.mem_cons, List.mem_append, Option.mem_toList] at hy
  rcases hy with rfl | rfl | hy | hy
  · exact lt_of h.blk
  · exact lt_of h.pool.blk
  · exact (row_lt h.row y hy).2
  · exact (row_lt h.pool.row y hy).2
end Go.Proofs.Ytcdmapllligjhaa
