/- Borrows: the laws' steps that come in. -/
import Derived.Test.YtappkiiihnaegaaFrame
import Derived.ChangeSlices
namespace Go.Proofs.Ytappkiiihnaegaa
open Go Go.RowKit Go.Stg Go.ChangeShapes Go.WideShapes Go.ChangeAt
theorem own : ownKnob Try.prog.godebug = none := by kernel_rfl
theorem cell_mod {S : List Nat} {w w' : World} {b o : Nat} (hm : Mod S w w') (hb : b < w.heap.size) (hS : b ∉ S) : w'.cell? ⟨b, o, none⟩ = w.cell? ⟨b, o, none⟩ :=
  World.cell?_of_block (a := ⟨b, o, none⟩) (hm.block b hb hS)
theorem cell_bool {w : World} {r : Reach} {base : Nat} {x : Value} (h : Cell.okWide Try.prog w r base 4 x) : ∃ n, x = .bool n := by
  unfold Cell.okWide at h
  rw [Try.underlying4] at h
  unfold Cell.ok at h
  rw [Try.underlying4] at h
  cases x <;> simp at h
  exact ⟨_, rfl⟩
structure X4 where
  a : Int
  b : Int
  c : Int
  d : Int
def X4.ok (x : X4) : Prop := (0 ≤ x.a ∧ x.a ≤ 255) ∧ (0 ≤ x.b ∧ x.b ≤ 255) ∧ (0 ≤ x.c ∧ x.c ≤ 255) ∧ 0 ≤ x.d ∧ x.d ≤ 255
/-- A slice of steps that came in. -/
def Steps4At (w : World) (v : Value) (xs : List X4) : Prop :=
  (v = .slice none 0 0 ∧ xs = []) ∨ ∃ sb so cap, v = .slice (some ⟨sb, so, none⟩) xs.length cap ∧ sb < w.heap.size ∧ xs.length ≤ maxLen ∧
    ∀ i (h : i < xs.length), xs[i].ok ∧ w.cell? ⟨sb, so + i * 4, none⟩ = some (.int .u8 xs[i].a) ∧ w.cell? ⟨sb, so + i * 4 + 1, none⟩ = some (.int .u8 xs[i].b) ∧ w.cell? ⟨sb, so + i * 4 + 2, none⟩ = some (.int .u8 xs[i].c) ∧ w.cell? ⟨sb, so + i * 4 + 3, none⟩ = some (.int .u8 xs[i].d)
theorem Steps4At.len {w0 : World} {v : Value} {xs : List X4} (h : Steps4At w0 v xs) (ty : TypeId) (w : World) : (Builtin.len_ #[34] ty #[v]).run Try.prog w = .ok (.int .i64 xs.length) w := by
  rcases h with ⟨rfl, rfl⟩ | ⟨sb, so, cap, rfl, _⟩ <;> simp [Builtin.len_, run_underlying Try.underlying34, goInt]
theorem Steps4At.small {w0 : World} {v : Value} {xs : List X4} (h : Steps4At w0 v xs) : xs.length ≤ 2 ^ 63 - 1 := by
  rcases h with ⟨_, rfl⟩ | ⟨_, _, _, _, _, h, _⟩
  · simp
  · exact h
theorem Steps4At.mod {w w' : World} {v : Value} {xs : List X4} (h : Steps4At w v xs) (hm : Mod [] w w') : Steps4At w' v xs := by
  rcases h with h | ⟨sb, so, cap, h1, h2, h3, h4⟩
  · exact .inl h
  · refine .inr ⟨sb, so, cap, h1, hm.lt h2, h3, fun i hi => ?_⟩
    obtain ⟨a0, a1, a2, a3, a4⟩ := h4 i hi
    exact ⟨a0, by rw [cell_mod hm h2 (by simp)]; exact a1, by rw [cell_mod hm h2 (by simp)]; exact a2, by rw [cell_mod hm h2 (by simp)]; exact a3, by rw [cell_mod hm h2 (by simp)]; exact a4⟩
set_option maxRecDepth 100000 in
theorem open_steps4 {H : Type} {enc : TypeId × Value → H} {W : World} {base : Nat} {v : Value} {d : DataW H} {ps : List MemPlace} (hval : Value.okWide Try.prog W .any base 34 v) (h : DataW.Trod enc Try.prog W 0 (fun _ => true) true 34 v d ps) : ∃ xs, Steps4At W v xs := by
  rcases open_int_rows (n := 4) (k := .u8) Try.underlying34 Try.underlying40 Try.underlying5 (by kernel_rfl) (by kernel_rfl) hval h with rfl | ⟨sb, so, len, cap, g, rfl, h1, h2, h3, h4⟩
  · exact ⟨[], .inl ⟨rfl, rfl⟩⟩
  · refine ⟨(List.range len).map fun i => ⟨g i 0, g i 1, g i 2, g i 3⟩, .inr ⟨sb, so, cap, by simp, h1, by simp; omega, fun i hi => ?_⟩⟩
    have hi' : i < len := by simpa using hi
    have k := fun j (hj : j < 4) => h4 i hi' j hj
    simp only [IntKind.min, IntKind.max, IntKind.signed, IntKind.bits] at k
    have k0 := k 0 (by omega)
    have k1 := k 1 (by omega)
    have k2 := k 2 (by omega)
    have k3 := k 3 (by omega)
    simp at k0 k1 k2 k3
    simp only [List.getElem_map, List.getElem_range]
    exact ⟨⟨k0.2, k1.2, k2.2, k3.2⟩, k0.1, k1.1, k2.1, k3.1⟩
end Go.Proofs.Ytappkiiihnaegaa
