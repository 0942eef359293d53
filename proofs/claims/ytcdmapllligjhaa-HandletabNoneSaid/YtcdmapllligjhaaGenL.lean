/- Generations: slots that were made after W; the example of the chapter; what the laws keep. -/
import Derived.Test.YtcdmapllligjhaaGenP
namespace Go.Proofs.Ytcdmapllligjhaa
open Go Go.RowKit Go.Stg

def Sl (W : World) (b pb : Nat) (sl : Value) (first : Int) (S : List Slot) (F : List Int) (ret : Int) (w : World) : Prop :=
  ∃ psv, Mod [] W w ∧ GenAt w b first S F ret sl psv pb ∧ ∀ x ∈ gfoot b pb sl psv, W.heap.size ≤ x
section
variable {W w : World} {b pb : Nat} {sl : Value} {first ret : Int} {S : List Slot} {F : List Int} (h : Sl W b pb sl first S F ret w)
include h
theorem Sl.mod : Mod [] W w := let ⟨_, h, _⟩ := h; h
theorem Sl.then {w' : World} (hm : Mod [] w w') : Sl W b pb sl first S F ret w' := by
  obtain ⟨psv, h1, h2, h3⟩ := h
  exact ⟨psv, h1.nil_then hm, h2.mod hm (by simp), h3⟩
theorem Sl_size : Calls Try.prog 35 #[.pointer (some ⟨b, 0, none⟩)] w fun e w' => e = .returned (.int .i64 S.length) ∧ Sl W b pb sl first S F ret w' := by
  have h0 := h
  obtain ⟨psv, h1, h2, h3⟩ := h
  exact (size_ok h2).mono fun e w' ⟨he, hm⟩ => ⟨he, h0.then hm⟩
theorem Sl_retired : Calls Try.prog 49 #[.pointer (some ⟨b, 0, none⟩)] w fun e w' => e = .returned (.int .i64 ret) ∧ Sl W b pb sl first S F ret w' := by
  have h0 := h
  obtain ⟨psv, h1, h2, h3⟩ := h
  exact (retired_ok h2).mono fun e w' ⟨he, hm⟩ => ⟨he, h0.then hm⟩
theorem Sl_live (k : Int) : Calls Try.prog 36 #[.pointer (some ⟨b, 0, none⟩), .int .i64 k] w fun e w' => e = .returned (liveV S k) ∧ Sl W b pb sl first S F ret w' := by
  have h0 := h
  obtain ⟨psv, h1, h2, h3⟩ := h
  exact (live_ok h2 k).mono fun e w' ⟨he, hm⟩ => ⟨he, h0.then hm⟩
theorem Sl_pool : Calls Try.prog 50 #[.pointer (some ⟨b, 0, none⟩)] w fun e w' => ∃ v, e = .returned v ∧ Sl W b pb sl first S F ret w' ∧ IntsAt w' v F := by
  have h0 := h
  obtain ⟨psv, h1, h2, h3⟩ := h
  exact (pool_ok h2).mono fun e w' ⟨v, he, hm, hi⟩ => ⟨v, he, h0.then hm, hi⟩
theorem Sl_end_dead (k : Int) (hl : liveV S k = .tuple #[.int .i64 0, .bool false]) : Calls Try.prog 34 #[.pointer (some ⟨b, 0, none⟩), .int .i64 k] w fun e w' => e = .returned (.int .i64 6) ∧ Sl W b pb sl first S F ret w' := by
  have h0 := h
  obtain ⟨psv, h1, h2, h3⟩ := h
  exact (end_dead h2 k hl).mono fun e w' ⟨he, hm⟩ => ⟨he, h0.then hm⟩
theorem Sl_issue_none (hF : F = []) (d : Int) : Calls Try.prog 31 #[.pointer (some ⟨b, 0, none⟩), .int .u64 d] w fun e w' => e = .returned (.tuple #[.int .i64 0, .int .i64 0, .int .i64 17]) ∧ Sl W b pb sl first S F ret w' := by
  have h0 := h
  obtain ⟨psv, h1, h2, h3⟩ := h
  exact (issue_none h2 hF d).mono fun e w' ⟨he, hm⟩ => ⟨he, h0.then hm⟩
end
theorem Sl.post {W w w' : World} {b pb : Nat} {sl psv v : Value} {first ret' : Int} {S' : List Slot} {F' : List Int} {e : Ending} (h1 : Mod [] W w) (h3 : ∀ x ∈ gfoot b pb sl psv, W.heap.size ≤ x) (h : GenPost v b first S' F' ret' sl psv pb w e w') : e = .returned v ∧ Sl W b pb sl first S' F' ret' w' := by
  obtain ⟨psv', rfl, hm, hG, hf⟩ := h
  refine ⟨rfl, psv', h1.then hm (fun x hx => .inr (h3 x hx)), hG, fun x hx => ?_⟩
  simp only [gfoot, List.mem_cons, List.mem_append, Option.mem_toList] at hx
  rcases hx with rfl | rfl | hx | hx
  · exact h3 x (by simp [gfoot])
  · exact h3 x (by simp [gfoot])
  · exact h3 x (by simp [gfoot, hx])
  · rcases hf x hx with h | h
    · exact h3 x (by simp [gfoot, h])
    · exact Nat.le_trans h1.size h
theorem Sl_issue {W w : World} {b pb : Nat} {sl : Value} {first ret : Int} {S : List Slot} {F : List Int} (h : Sl W b pb sl first S F ret w) (d : Int) (hd : 0 ≤ d) (hd2 : d ≤ 18446744073709551615) (hn : 0 < F.length) (i : Nat) (hi : d % F.length = i) (hil : i < F.length) (j : Nat) (hj : F[i] = j) (hjl : j < S.length) (hg0 : 0 ≤ S[j].1) (hg1 : S[j].1 < 4294967295) (g' : Int) (hg' : (S[j].1 = 0 ∧ g' = first) ∨ (S[j].1 ≠ 0 ∧ g' = S[j].1 + 1)) :
    Calls Try.prog 31 #[.pointer (some ⟨b, 0, none⟩), .int .u64 d] w fun e w' => e = .returned (.tuple #[.int .i64 j, .int .i64 g', .int .i64 0]) ∧ Sl W b pb sl first (S.set j (g', true)) (takeAt F i hn) ret w' := by
  obtain ⟨psv, h1, h2, h3⟩ := h
  exact (issue_some h2 d hd hd2 hn i hi hil j hj hjl hg0 hg1 g' hg').mono fun e w' hp => Sl.post h1 h3 hp
theorem Sl_end {W w : World} {b pb : Nat} {sl : Value} {first ret : Int} {S : List Slot} {F : List Int} (h : Sl W b pb sl first S F ret w) (j : Nat) (hjl : j < S.length) (ge : Int) (hs : S[j] = (ge, true)) (r' : Int) (F' : List Int) (hr0 : 0 ≤ ret) (hr1 : ret ≤ 1000000) (hF : F.length < 1000000) (hcase : (ge = 4294967295 ∧ r' = ret + 1 ∧ F' = F) ∨ (ge ≠ 4294967295 ∧ r' = ret ∧ F' = F ++ [(j : Int)])) :
    Calls Try.prog 34 #[.pointer (some ⟨b, 0, none⟩), .int .i64 j] w fun e w' => e = .returned (.int .i64 0) ∧ Sl W b pb sl first (S.set j (ge, false)) F' r' w' := by
  obtain ⟨psv, h1, h2, h3⟩ := h
  exact (end_live h2 j hjl ge hs r' F' hr0 hr1 hF hcase).mono fun e w' hp => Sl.post h1 h3 hp
theorem Sl_new (n : Nat) (f : Int) (hn : n ≤ 4096) (hf1 : 1 ≤ f) (hf2 : f ≤ 4294967295) (w : World) :
    Calls Try.prog 28 #[.int .i64 n, .int .i64 f] w fun e w' => ∃ b pb sl, e = .returned (.tuple #[.pointer (some ⟨b, 0, none⟩), .int .i64 0]) ∧ Sl w b pb sl f (fresh n) (upTo n) 0 w' :=
  (new_ok n f hn hf1 hf2 w).mono fun e w' ⟨b, pb, sl, psv, he, hm, hG, hf⟩ => ⟨b, pb, sl, he, psv, hm, hG, hf⟩
end Go.Proofs.Ytcdmapllligjhaa
