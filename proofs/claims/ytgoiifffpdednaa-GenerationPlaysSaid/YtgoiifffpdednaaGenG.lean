/- Opening the laws' lists of steps. -/
import Derived.Test.YtgoiifffpdednaaGenS
import Derived.Test.YtgoiifffpdednaaGenF
namespace Go.Proofs.Ytgoiifffpdednaa
open Go Go.RowKit Go.Stg Go.ChangeShapes Go.WideShapes Go.ChangeAt
theorem open_steps {H : Type} {enc : TypeId × Value → H} {W : World} {base : Nat} {v : Value} {d : DataW H} {ps : List MemPlace} (hval : Value.okWide Try.prog W .any base 22 v) (h : DataW.Trod enc Try.prog W 0 (fun _ => true) true 22 v d ps) : ∃ xs, StepsAt W v xs := by
  rcases open_int_rows (n := 2) (k := .u16) Try.underlying22 Try.underlying30 Try.underlying29 (by kernel_rfl) (by kernel_rfl) hval h with rfl | ⟨sb, so, len, cap, g, rfl, h1, h2, h3, h4⟩
  · exact ⟨[], .inl ⟨rfl, rfl⟩⟩
  · refine ⟨(List.range len).map fun i => ⟨g i 0, g i 1⟩, .inr ⟨sb, so, cap, by simp, h1, by simp; omega, fun i hi => ?_⟩⟩
    have hi' : i < len := by simpa using hi
    have k := fun j (hj : j < 2) => h4 i hi' j hj
    simp only [IntKind.min, IntKind.max, IntKind.signed, IntKind.bits] at k
    have k0 := k 0 (by omega)
    have k1 := k 1 (by omega)
    simp at k0 k1
    simp only [List.getElem_map, List.getElem_range]
    exact ⟨⟨k0.2, k1.2⟩, k0.1, k1.1⟩
end Go.Proofs.Ytgoiifffpdednaa
