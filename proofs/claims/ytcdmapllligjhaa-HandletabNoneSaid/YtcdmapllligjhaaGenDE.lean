/- Generations: the definition's End. -/
import Derived.Test.YtcdmapllligjhaaGenDI
namespace Go.Proofs.Ytcdmapllligjhaa
open Go Go.RowKit Go.Stg

set_option maxHeartbeats 1000000 in
theorem rend_ok {w : World} {b n : Nat} {first : Int} {x : GS} {gv lv fv : Value} (h : RAt w b first x.S x.F x.ret gv lv fv) (hI : GInv n first x) (hn : n ≤ 4096) (k : Int) :
    Calls Try.prog 47 #[.pointer (some ⟨b, 0, none⟩), .int .i64 k] w (RPost (.int .i64 (endV x k)) b first (endG x k).S (endG x k).F (endG x k).ret gv lv fv w) := by
  have hO := rof_ok h k
  unfold endG endV
  by_cases hl : liveN x.S k = true
  · rw [if_pos hl, if_pos hl]
    rw [hl] at hO
    simp only [if_true] at hO
    obtain ⟨j, rfl, hj, hd⟩ := liveN_iff hl
    rw [Int.toNat_natCast] at hO ⊢
    have hcnt := hI.cnt
    have hret := hI.ret0
    have hFl : x.F.length ≤ 4096 := by omega
    have hFr : x.ret ≤ 4096 := by omega
    clear hI hl
    obtain ⟨i0, hi0, hz0, hz1, hz2⟩ := info_parts info_int
    obtain ⟨g2, cap2, rfl, _, _⟩ := row_pos h.gen (by omega)
    obtain ⟨g1, cap1, rfl, _, _⟩ := row_pos h.live (by omega)
    rcases x with ⟨S, F, ret⟩
    simp only at *
    have hln : S.length ≤ 1000000 ∨ True := .inr trivial
    have hOH := Lib.hid hO
    have hfl := h.foot_lt
    have hH := Lib.hid h
    obtain ⟨ge, le, hsl⟩ : ∃ ge le, slotN S j = (ge, le) := ⟨_, _, rfl⟩
    rw [hsl] at hd ⊢
    simp only at hd ⊢
    subst hd
    have hslH := Lib.hid hsl
    have key : ∀ F' r', ((ge = 4294967295 ∧ F' = F ∧ r' = ret + 1) ∨ (ge ≠ 4294967295 ∧ F' = F ++ [(j : Int)] ∧ r' = ret)) → Calls Try.prog 47 #[.pointer (some ⟨b, 0, none⟩), .int .i64 j] w (RPost (.int .i64 0) b first (S.set j (ge, false)) F' r' (.slice (some ⟨g2, 0, none⟩) S.length cap2) (.slice (some ⟨g1, 0, none⟩) S.length cap1) fv w) := ?_
    · by_cases hge : ge = 4294967295
      · rw [if_pos hge]; exact key _ _ (.inl ⟨hge, rfl, rfl⟩)
      · rw [if_neg hge]; exact key _ _ (.inr ⟨hge, rfl, rfl⟩)
    intro F' r' hc
    clear h hO hsl hln
    go_enter Try.func47, Try.ntmps47
    go_wp2_with fail
    refine hOH.out.mono ?_
    rintro e w1 ⟨rfl, hm1⟩
    clear hOH
    have h1 := hH.out.mod hm1 (by simp)
    have hcb1 := cells_of h1.blk
    obtain ⟨c1, z1, l1⟩ := h1.liveAt rfl hj
    have h2 := h1.setLive rfl hj false
    have hm2 := (hm1.mono (T := rfoot b (.slice (some ⟨g2, 0, none⟩) S.length cap2) (.slice (some ⟨g1, 0, none⟩) S.length cap1) fv) (by simp)).setCell (p := ⟨g1, j, none⟩) (.inl (by simp [rfoot, Value.ownBlock])) (.bool false)
    rw [hslH.out] at h2
    simp only at h2
    have hcb2 := cells_of h2.blk
    have hfb2 := frozen_of h2.blk
    have hsl2 : slotN (S.set j (ge, false)) j = (ge, false) := by rw [slotN_set hj, if_pos rfl]
    obtain ⟨c2, z2, l2⟩ := h2.genAt (by rw [List.length_set]) (j := j) (by simpa using hj)
    rw [hsl2] at c2
    simp only at c2
    have h2H := Lib.hid h2
    have hm2H := Lib.hid hm2
    have hs2 := hm2.size
    clear hH h1 h2 hm1 hm2 hslH hsl2
    rcases hc with ⟨hge, rfl, rfl⟩ | ⟨hge, rfl, rfl⟩
    · subst hge
      go_wp2_with fail
      have h2 := h2H.out
      have hm2 := hm2H.out
      generalize w1.setCell ⟨g1, j, none⟩ (.bool false) = w2 at *
      have h3 := h2.setRet (ret + 1)
      have hm3 := hm2.setCell (p := ⟨b, 4, none⟩) (.inl (by simp [rfoot])) (.int .i64 (ret + 1))
      go_wp2_with fail
      go_ret
      exact ⟨_, rfl, hm3, h3, fun y hy => .inl hy⟩
    · have hge2 : (ge == 4294967295) = false := by simp only [beq_eq_false_iff_ne]; omega
      have hown : ((w1.setCell ⟨g1, j, none⟩ (.bool false)).alloc (.cells #[] 3 (0, 0))).ownsRow 0 3 1 (.slice (some ⟨w1.heap.size, 0, none⟩) 0 0) 0 [] := by
        have := World.ownsRow_made (base := 0) (e := 3) (size := 1) (w1.setCell ⟨g1, j, none⟩ (.bool false)) #[] 0 (Nat.zero_le _) (Nat.zero_le _) rfl
        simpa using this
      have hma := (Mod.refl [] (w1.setCell ⟨g1, j, none⟩ (.bool false))).alloc (.cells #[] 3 (0, 0))
      have h3 := h2H.out.mod hma (by simp)
      have hcb3 := cells_of h3.blk
      have hfb3 := frozen_of h3.blk
      have hI3 := h3.free.sliceIn
      have hI3 := Lib.hid hI3
      have h3H := Lib.hid h3
      have hl12 : F.length + 1 ≤ 5000 := by omega
      have hgs : (w1.setCell ⟨g1, j, none⟩ (.bool false)).heap.size = w1.heap.size := by simp
      have hgsH := Lib.hid hgs
      have hs2H := Lib.hid hs2
      clear h3 hgs hs2
      go_wp2_with (first | (at_builtin; refine wpList_append_in _ rfl _ _ 67 rfl 3 i0 (.int .i64 0) 8 Try.underlying67 hi0 hz0 hz1 hz2 rfl (.slice (some ⟨w1.heap.size, 0, none⟩) 0 0) 0 [] rfl hown fv _ rfl hI3.out (by simp [Value.oneCell']) (by unfold maxLen; first | omega | (simp; done) | (simp; omega)) (by first | omega | (simp; done) | (simp; omega)) ?_; intro v1 w10 hown1 hgrow1 hfr1; simp only [Nat.zero_add, List.nil_append, List.length_map] at hown1) | (at_builtin; refine wpList_append_row _ rfl _ _ 67 rfl 3 i0 (.int .i64 0) 1 8 Try.underlying67 hi0 hz0 hz1 hz2 rfl (by decide) v1 F.length _ rfl (hown1.alloc _) ⟨w10.heap.size, 0, none⟩ 1 1 [.int .i64 j] rfl rfl (cells1 _ _ _) (by simp [Value.oneCell']) (by unfold maxLen; first | omega | (simp; done) | (simp; omega)) (by first | omega | (simp; done) | (simp; omega)) ?_; intro mv6 w11 hown2 hgrow2 hfr2; obtain ⟨g5, cap5, rfl, _, _⟩ := row_pos hown2 (by omega); have hgs := hgsH.out; have f1 : ∀ x, v1.ownBlock = some x → w1.heap.size ≤ x := (fun x hx => by rcases hfr1 x hx with h | h <;> simp [Value.ownBlock] at h <;> omega); have s1 : Mod [] (w1.setCell ⟨g1, j, none⟩ (.bool false)) w10 := ((Mod.refl [] (w1.setCell ⟨g1, j, none⟩ (.bool false))).alloc _).grown hgrow1 (fun k hk => .inr (by simp [Value.ownBlock] at hk; omega)); have s2 : Mod [] (w1.setCell ⟨g1, j, none⟩ (.bool false)) w11 := (s1.alloc _).grown hgrow2 (fun k hk => .inr (by have := f1 k hk; omega)); have h4 := h2H.out.mod s2 (by simp); have hcb4 := cells_of h4.blk; have hfb4 := frozen_of h4.blk; have hs1 := s1.size; have hmv : w1.heap.size ≤ g5 := (by rcases hfr2 g5 rfl with h | h; exact f1 g5 h; simp at h; omega); have h4H := Lib.hid h4; have s2H := Lib.hid s2; have hown2H := Lib.hid hown2; clear h4 s2 s1 f1 hgs hown2 hgrow2 hfr2 hgrow1 hfr1 hown1 hs1))
      go_ret
      have h4 := h4H.out
      have hs := hs2H.out
      rw [hgsH.out] at hs
      have hlt := hfl
      have hi := row_ints (xs := F ++ [(j : Int)]) (by simpa using hown2H.out) (by simp) (by simp; omega)
      have hne : ∀ y, y < w.heap.size → (Value.slice (some ⟨g5, 0, none⟩) (F.length + 1) cap5).ownBlock ≠ some y := fun y hy e => by simp [Value.ownBlock] at e; omega
      have h5 := h4.setFree hi (hne b (hlt b (by simp [rfoot]))) (fun y hy => hne y (hlt y (by simp [rfoot, hy]))) (fun y hy => hne y (hlt y (by simp [rfoot, hy])))
      have hm5 := (hm2H.out.nil_then s2H.out).setCell (p := ⟨b, 3, none⟩) (.inl (by simp [rfoot])) (.slice (some ⟨g5, 0, none⟩) (F.length + 1) cap5)
      exact ⟨_, rfl, hm5, h5, fun y hy => .inr (by simp [Value.ownBlock] at hy; omega)⟩
  · have hl' : liveN x.S k = false := by simpa using hl
    rw [if_neg hl, if_neg hl]
    rw [hl'] at hO
    simp only [Bool.false_eq_true, if_false] at hO
    have hfin := fun w' (hm : Mod [] w w') => RPost.same (v := .int .i64 6) h hm
    have hfin := Lib.hid hfin
    clear h hI hl hl'
    go_enter Try.func47, Try.ntmps47
    go_wp2_with fail
    refine hO.mono ?_
    rintro e w1 ⟨rfl, hm1⟩
    go_wp2_with fail
    go_ret
    exact hfin.out _ hm1
end Go.Proofs.Ytcdmapllligjhaa
