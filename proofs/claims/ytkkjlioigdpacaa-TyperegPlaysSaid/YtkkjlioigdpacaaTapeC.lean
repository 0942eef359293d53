/- A tape as a part of a scene. -/
import Derived.Test.YtkkjlioigdpacaaMade
import Derived.Test.YtkkjlioigdpacaaFlat
namespace Go.Proofs.Ytkkjlioigdpacaa
open Go Go.RowKit Go.Stg
def tapeC (b K A B : Nat) : Comp :=
  ⟨fun w f => TapeAt w b K A B ∧ f = List.range' A (B - A),
   fun h hm hT => ⟨h.1.modS hm fun x hx => by
      by_cases hA : x < A
      · exact .inl hA
      · by_cases hB : B ≤ x
        · exact .inr hB
        · exact absurd hx (hT x (by rw [h.2, List.mem_range'_1]; omega)), h.2⟩,
   fun h x hx => by
    have := h.1.lt
    rw [h.2, List.mem_range'_1] at hx; omega⟩
theorem sc_of {F : List Nat} {W w : World} {cs : List Comp} (h : Scene F W cs w) (v : Value) (xs : List Int) (most : Nat) (hmost : most ≤ 1000) (hx : NumsAt w v xs) :
    Calls Try.prog 13 #[v, .int .i64 most] w fun e w' => ∃ b A B, e = .returned (.pointer (some ⟨b, 0, none⟩)) ∧ Scene F W (tapeC b 0 A B :: cs) w' :=
  (of_ok v xs most hmost w hx).mono fun _ w' ⟨b, h1, h2, h3, _⟩ => ⟨b, w.heap.size, w'.heap.size, h1, h.add (c := tapeC b 0 w.heap.size w'.heap.size) h2 ⟨h3, rfl⟩ fun x hx => by rw [List.mem_range'_1] at hx; omega⟩
theorem sc_type {F : List Nat} {W w : World} {cs : List Comp} {b K A B : Nat} (h : Scene F W (tapeC b K A B :: cs) w) (hK : K ≤ 1000) :
    Calls Try.prog 12 #[.pointer (some ⟨b, 0, none⟩)] w fun e w' => ∃ (len : Int) (g cap : Nat) (fs : List Fld), e = .returned (.agg #[.int .i64 len, .slice (some ⟨g, 0, none⟩) fs.length cap]) ∧ Made len fs ∧
      Scene F W (rowC (.slice (some ⟨g, 0, none⟩) fs.length cap) fs.length 28 2 (fcells fs) :: tapeC b (K + 12) A B :: cs) w' := by
  obtain ⟨f, ⟨h1, h2⟩, hk⟩ := h.part 0 rfl
  refine (type_next b K A B w h1 hK).mono ?_
  rintro e w' ⟨len, g, cap, fs, he, hF, hM, hcap, hm, hg, hT, hr⟩
  refine ⟨len, g, cap, fs, he, hM, ?_⟩
  have hl := hT.lt
  have h3 := hk w' ([g] ++ (f ++ [])) (Comp.all [rowC (.slice (some ⟨g, 0, none⟩) fs.length cap) fs.length 28 2 (fcells fs), tapeC b (K + 12) A B]) ⟨[g], f ++ [], ⟨hr, rfl⟩, ⟨f, [], ⟨hT, h2⟩, rfl, by simp, rfl⟩, fun x hx hx2 => ?_, rfl⟩ (hm.mono fun x hx => ?_) (fun x hx => ?_)
  · exact h3.split
  · rw [List.mem_singleton.1 hx, List.append_nil, h2, List.mem_range'_1] at hx2
    have := h1.lt; omega
  · rw [List.mem_singleton.1 hx, h2, List.mem_range'_1]
    obtain ⟨_, _, _, _, _, _, _, _, ⟨q1, q2⟩, _⟩ := h1
    omega
  · rw [List.append_nil] at hx
    rcases List.mem_append.1 hx with hx | hx
    · right; rw [List.mem_singleton.1 hx]; exact hg
    · exact .inl hx
end Go.Proofs.Ytkkjlioigdpacaa
