/- Layouts: a list of numbers that comes in. -/
import Derived.Test.YtkkjlioigdpacaaMake
import Derived.Test.YtkkjlioigdpacaaLayF
namespace Go.Proofs.Ytkkjlioigdpacaa
open Go Go.RowKit Go.Stg Go.ChangeShapes Go.WideShapes Go.ChangeAt
theorem open_nums {H : Type} {enc : TypeId × Value → H} {W : World} {base : Nat} {v : Value} {d : DataW H} {ps : List MemPlace} (hval : Value.okWide Try.prog W .any base 35 v) (h : DataW.Trod enc Try.prog W 0 (fun _ => true) true 35 v d ps) : ∃ ds, NumsAt W v ds := by
  rcases open_slice_val Try.underlying35 hval with rfl | ⟨sb, so, len, cap, rfl, h1, h2, h3⟩
  · exact ⟨[], .inl ⟨rfl, rfl⟩⟩
  · obtain ⟨fuel, hf⟩ := h
    have hcs : (Value.slice (some ⟨sb, so, none⟩) len cap).cells.toList = [.slice (some ⟨sb, so, none⟩) len cap] := rfl
    rw [hcs] at hf
    rcases open_ints Try.underlying35 Try.underlying76 (by kernel_rfl) hf with ⟨h0, _⟩ | ⟨a, len', cap', zs, h0, _, _, _, hz, _, hx, hw⟩
    · simp at h0
    · simp at h0
      obtain ⟨rfl, rfl, rfl⟩ := h0
      simp at hz
      refine ⟨zs.take len, .inr ⟨sb, so, cap, by simp [hz, Nat.min_eq_left h2], h1, by simp; omega, by simp; omega, fun i hi => ?_⟩⟩
      have hi' : i < len ∧ i < zs.length := by rw [List.length_take] at hi; omega
      have k := hx i hi'.2
      rw [add_at, List.getD_eq_getElem?_getD, List.getElem?_eq_getElem hi'.2] at k
      have kw := wf_bounds (hw zs[i] (List.getElem_mem hi'.2))
      simp [IntKind.min, IntKind.max, IntKind.signed, IntKind.bits] at kw
      simp only [List.getElem_take]
      exact ⟨by simpa using k, kw⟩
end Go.Proofs.Ytkkjlioigdpacaa
