/- Handle tables: the laws' words. -/
import Derived.Test.YtcdmapllligjhaaTape
import Derived.Laws.Closers25b
namespace Go.Proofs.Ytcdmapllligjhaa
open Go Go.RowKit Go.Stg

theorem mword_ok (b B : Nat) (f : Int) (f0 : 0 ≤ f) (f1 : f ≤ 4294967295) (w : World) (h : TapeAt w b 0 B) :
    Calls Try.prog 43 #[.pointer (some ⟨b, 0, none⟩), .int .u32 f] w fun e w' => ∃ k : Int, e = .returned (.int .u64 k) ∧ (0 ≤ k ∧ k ≤ 18446744073709551615) ∧ Mod [b] w w' := by
  go_enter Try.func43, Try.ntmps43
  go_wp2_with fail
  refine (next_ok b 0 B 3 (by omega) (by omega) _ h (by omega)).mono ?_
  rintro e w1 ⟨x1, rfl, p1, p2, hm1, h1⟩
  clear h
  go_wp2_with fail
  refine (next_ok b 1 B 8 (by omega) (by omega) _ h1 (by omega)).mono ?_
  rintro e w2 ⟨x2, rfl, p3, p4, hm2, h2⟩
  have hm2 := hm1.trans hm2
  clear h1 hm1
  go_wp2_with fail
  refine (next_ok b 2 B 3 (by omega) (by omega) _ h2 (by omega)).mono ?_
  rintro e w3 ⟨x3, rfl, p5, p6, hm3, h3⟩
  have hm3 := hm2.trans hm3
  clear h2 hm2
  go_wp2_with fail
  refine (next_ok b 3 B 6 (by omega) (by omega) _ h3 (by omega)).mono ?_
  rintro e w4 ⟨x4, rfl, p7, p8, hm4, h4⟩
  have hm4 := hm3.trans hm4
  clear h3 hm3
  go_wp2_with fail
  refine (next_ok b 4 B 20 (by omega) (by omega) _ h4 (by omega)).mono ?_
  rintro e w5 ⟨x5, rfl, p9, p10, hm5, h5⟩
  have hm5 := hm4.trans hm5
  clear h4 hm4
  by_cases hz : x5 = 0
  · subst hz
    go_wp2_with fail
    refine (next_ok b 5 B 64 (by omega) (by omega) _ h5 (by omega)).mono ?_
    rintro e w6 ⟨x6, rfl, p11, p12, hm6, h6⟩
    have hm6 := hm5.trans hm6
    clear h5 hm5 h6
    go_wp2_with fail
    go_ret
    exact ⟨_, rfl, ⟨bits_lo_u64 _ _ _, bits_hi_u64 _ _ _⟩, hm6⟩
  · have hz2 : (x5 == 0) = false := by simp only [beq_eq_false_iff_ne]; exact hz
    clear hz h5
    go_wp2_with fail
    go_ret
    exact ⟨_, rfl, ⟨bits_lo_u64 _ _ _, bits_hi_u64 _ _ _⟩, hm5⟩
theorem six_nums (w : World) (a b c d e f : Int) (ha : 0 ≤ a ∧ a ≤ 65535) (hb : 0 ≤ b ∧ b ≤ 65535) (hc : 0 ≤ c ∧ c ≤ 65535) (hd : 0 ≤ d ∧ d ≤ 65535) (he : 0 ≤ e ∧ e ≤ 65535) (hf : 0 ≤ f ∧ f ≤ 65535) :
    NumsAt (w.alloc (.cells #[.int .u16 a, .int .u16 b, .int .u16 c, .int .u16 d, .int .u16 e, .int .u16 f] 30 (0, 0))) (.slice (some ⟨w.heap.size, 0, none⟩) 6 6) [a, b, c, d, e, f] := by
  refine .inr ⟨w.heap.size, 0, 6, rfl, by simp, by simp [maxLen], by simp, fun i hi => ?_⟩
  have hcb := cells_of (at_alloc w (.cells #[.int .u16 a, .int .u16 b, .int .u16 c, .int .u16 d, .int .u16 e, .int .u16 f] 30 (0, 0)))
  rw [Nat.zero_add, hcb]
  have hi6 : i < 6 := hi
  rcases show i = 0 ∨ i = 1 ∨ i = 2 ∨ i = 3 ∨ i = 4 ∨ i = 5 by omega with rfl | rfl | rfl | rfl | rfl | rfl
  · exact ⟨rfl, ha⟩
  · exact ⟨rfl, hb⟩
  · exact ⟨rfl, hc⟩
  · exact ⟨rfl, hd⟩
  · exact ⟨rfl, he⟩
  · exact ⟨rfl, hf⟩
/-- The handles that the laws keep. -/
def EverAt (w : World) (v : Value) (hs : List Int) : Prop := w.ownsRow 0 35 1 v hs.length (hs.map (.int .u64)) ∧ ∀ h ∈ hs, 0 ≤ h ∧ h ≤ 18446744073709551615
theorem EverAt.mod {w w' : World} {v : Value} {hs : List Int} (h : EverAt w v hs) (hm : Mod [] w w') : EverAt w' v hs := ⟨row_mod h.1 hm (by simp), h.2⟩
set_option maxHeartbeats 1000000 in
theorem word_ok (a b c d f : Int) (hb : 0 ≤ b ∧ b ≤ 65535) (hc : 0 ≤ c ∧ c ≤ 65535) (hd : 0 ≤ d ∧ d ≤ 65535) (hf : 0 ≤ f ∧ f ≤ 4294967295) (v : Value) (hs : List Int) (hl : hs.length ≤ 1000) (w : World) (hE : EverAt w v hs) :
    Calls Try.prog 20 #[.agg #[.int .u16 a, .int .u16 b, .int .u16 c, .int .u16 d], .int .i64 f, v] w fun e w' => ∃ k : Int, e = .returned (.int .u64 k) ∧ (0 ≤ k ∧ k ≤ 18446744073709551615) ∧ Mod [] w w' := by
  have hm0 := (Mod.refl [] w).alloc (.cells #[.int .u16 a, .int .u16 b, .int .u16 c, .int .u16 d] 31 (0, 0))
  have hcq := cells_of (at_alloc w (.cells #[.int .u16 a, .int .u16 b, .int .u16 c, .int .u16 d] 31 (0, 0)))
  have hln := fun ty w' => row_len (ty := ty) Try.underlying28 hE.1 w'
  obtain ⟨hb0, hb1⟩ := hb
  obtain ⟨hc0, hc1⟩ := hc
  obtain ⟨hd0, hd1⟩ := hd
  obtain ⟨hf0, hf1⟩ := hf
  have hm0H := Lib.hid hm0
  by_cases hk : 0 < c % 4 ∧ 0 < hs.length
  · obtain ⟨hk1, hk2⟩ := hk
    have hrow := row_mod hE.1 hm0 (by simp)
    obtain ⟨g, cap, rfl, _, _⟩ := row_pos hrow hk2
    obtain ⟨m, hm⟩ := Int.eq_ofNat_of_zero_le (Int.emod_nonneg b (show (hs.length : Int) ≠ 0 by omega))
    have hml : m < hs.length := by have := Int.emod_lt_of_pos b (show (0 : Int) < hs.length by omega); omega
    have hc8 := hrow.cellAt m (by omega)
    rw [List.getElem?_map, List.getElem?_eq_getElem hml] at hc8
    simp only [Option.map_some] at hc8
    obtain ⟨q0, q1⟩ := hE.2 _ (List.getElem_mem hml)
    generalize hs[m] = hh at *
    clear hrow hE hm0
    by_cases h16 : c % 16 = 1
    · go_enter Try.func20, Try.ntmps20
      go_wp2_with fail
      go_ret
      exact ⟨_, rfl, ⟨bits_lo_u64 _ _ _, bits_hi_u64 _ _ _⟩, hm0H.out⟩
    · have h16b : (c % 16 == 1) = false := by simp only [beq_eq_false_iff_ne]; exact h16
      clear h16
      go_enter Try.func20, Try.ntmps20
      go_wp2_with fail
      go_ret
      exact ⟨_, rfl, ⟨q0, q1⟩, hm0H.out⟩
  · have hN := six_nums (w.alloc (.cells #[.int .u16 a, .int .u16 b, .int .u16 c, .int .u16 d] 31 (0, 0))) b c d (b / 8) (c / 8) (d / 8) (by omega) (by omega) (by omega) (by omega) (by omega) (by omega)
    have hm1 := hm0.alloc (.cells #[.int .u16 b, .int .u16 c, .int .u16 d, .int .u16 (b / 8), .int .u16 (c / 8), .int .u16 (d / 8)] 30 (0, 0))
    have hsz : (w.alloc (.cells #[.int .u16 a, .int .u16 b, .int .u16 c, .int .u16 d] 31 (0, 0))).heap.size = w.heap.size + 1 := by simp
    rw [hsz] at hN
    have hO := Lib.hid (of_ok _ _ 6 (by omega) _ hN)
    have hm1H := Lib.hid hm1
    have hcase : c % 4 = 0 ∨ (0 < c % 4 ∧ hs.length = 0) := by omega
    clear hN hm0 hm0H hm1 hsz hE hk
    have fin : ∀ (w2 w3 : World) (b2 : Nat), Mod [] w w2 → w.heap.size ≤ b2 → Mod [b2] w2 w3 → Mod [] w w3 := fun w2 w3 b2 h1 h2 h3 => h1.then h3 (fun x hx => .inr (by simp at hx; omega))
    have finH := Lib.hid fin
    clear fin
    rcases hcase with h1 | ⟨h1, h2⟩
    · go_enter Try.func20, Try.ntmps20
      go_wp2_with fail
      refine hO.out.mono ?_
      rintro e w2 ⟨b2, rfl, hm2, hT2, hb2⟩
      have hm3 := Lib.hid (hm1H.out.nil_then hm2)
      have hb3 : w.heap.size ≤ b2 := by simp at hb2; omega
      go_wp2_with fail
      refine (mword_ok b2 _ f hf0 hf1 _ hT2).mono ?_
      rintro e w3 ⟨k, rfl, hk2, hm4⟩
      have hm5 := Lib.hid (finH.out _ _ _ hm3.out hb3 hm4)
      clear hm2 hT2 hb2
      go_wp2_with fail
      go_ret
      exact ⟨_, rfl, hk2, hm5.out⟩
    · rw [h2] at hln
      go_enter Try.func20, Try.ntmps20
      go_wp2_with fail
      refine hO.out.mono ?_
      rintro e w2 ⟨b2, rfl, hm2, hT2, hb2⟩
      have hm3 := Lib.hid (hm1H.out.nil_then hm2)
      have hb3 : w.heap.size ≤ b2 := by simp at hb2; omega
      go_wp2_with fail
      refine (mword_ok b2 _ f hf0 hf1 _ hT2).mono ?_
      rintro e w3 ⟨k, rfl, hk2, hm4⟩
      have hm5 := Lib.hid (finH.out _ _ _ hm3.out hb3 hm4)
      clear hm2 hT2 hb2
      go_wp2_with fail
      go_ret
      exact ⟨_, rfl, hk2, hm5.out⟩
end Go.Proofs.Ytcdmapllligjhaa
