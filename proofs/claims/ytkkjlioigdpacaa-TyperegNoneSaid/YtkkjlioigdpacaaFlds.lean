/- Fields of types: lists of them, as cells and as rows. -/
import Derived.Test.YtkkjlioigdpacaaLayP
import Derived.Laws.OwnMore
namespace Go.Proofs.Ytkkjlioigdpacaa
open Go Go.RowKit Go.Stg

theorem fields_one {w : World} {b : Nat} {k c : Int} {T : TypeId} {fr : Nat × Nat} (h : w.heap[b]? = some (.cells #[.int .i64 k, .int .i64 c] T fr)) : FieldsAt w (.slice (some ⟨b, 0, none⟩) 1 1) [(k, c)] := by
  refine .inr ⟨b, 0, 1, rfl, lt_of h, by simp [maxLen], fun i hi => ?_⟩
  have : i = 0 := by simpa using hi
  subst this
  rw [cells_of h, cells_of h]
  exact ⟨rfl, rfl⟩
theorem FieldsAt.modS {S : List Nat} {w w' : World} {v : Value} {fs : List Fld} (h : FieldsAt w v fs) (hm : Mod S w w') (hS : ∀ x, v.ownBlock = some x → x ∉ S) : FieldsAt w' v fs := by
  rcases h with h | ⟨sb, so, cap, rfl, h2, h3, h4⟩
  · exact .inl h
  · exact .inr ⟨sb, so, cap, rfl, hm.lt h2, h3, fun i hi => ⟨(cell_mod hm h2 (hS sb rfl)).trans (h4 i hi).1, (cell_mod hm h2 (hS sb rfl)).trans (h4 i hi).2⟩⟩
def fcells (fs : List Fld) : List Value := fs.flatMap fun f => [.int .i64 f.1, .int .i64 f.2]
theorem fcells_length : ∀ fs : List Fld, (fcells fs).length = fs.length * 2
  | [] => rfl
  | f :: r => by
    have := fcells_length r
    simp [fcells] at this ⊢
    omega
theorem fcells_at : ∀ (fs : List Fld) (i : Nat) (h : i < fs.length), (fcells fs)[i * 2]? = some (.int .i64 fs[i].1) ∧ (fcells fs)[i * 2 + 1]? = some (.int .i64 fs[i].2)
  | [], i, h => by simp at h
  | f :: r, 0, _ => ⟨rfl, rfl⟩
  | f :: r, i + 1, h => by
    have e : fcells (f :: r) = .int .i64 f.1 :: .int .i64 f.2 :: fcells r := rfl
    have h1 : (i + 1) * 2 = i * 2 + 2 := by omega
    have h2 : i * 2 + 2 + 1 = i * 2 + 1 + 2 := by omega
    rw [e, h1, h2]
    exact fcells_at r i (by simpa using h)
theorem fcells_snoc (fs : List Fld) (f : Fld) : fcells (fs ++ [f]) = fcells fs ++ [.int .i64 f.1, .int .i64 f.2] := by simp [fcells]
theorem row_fields {w : World} {e base n : Nat} {v : Value} {fs : List Fld} (h : w.ownsRow base e 2 v n (fcells fs)) (hn : n = fs.length) : FieldsAt w v fs := by
  subst hn
  rcases row_cases h with ⟨rfl, h0, _⟩ | ⟨g, cap, rfl, _, hg, hc, hm, hat⟩
  · exact .inl ⟨rfl, List.eq_nil_of_length_eq_zero h0⟩
  · refine .inr ⟨g, 0, cap, rfl, hg, by omega, fun i hi => ?_⟩
    rw [Nat.zero_add]
    exact ⟨(hat _ (by omega)).trans (fcells_at fs i hi).1, (hat _ (by omega)).trans (fcells_at fs i hi).2⟩
theorem info_field : (Try.prog.info? 28).map (fun i => (i.zero, i.size, i.bytes)) = some (some (.agg #[.int .i64 0, .int .i64 0]), 2, 16) := by kernel_rfl
theorem cells2 (w : World) (a b : Value) (T : TypeId) : ∀ j u, [a, b][j]? = some u → (w.alloc (.cells #[a, b] T)).cell? ((⟨w.heap.size, 0, none⟩ : Addr).add j) = some u := by
  intro j u h
  have hadd : (⟨w.heap.size, 0, none⟩ : Addr).add j = ⟨w.heap.size, j, none⟩ := by unfold Addr.add; split <;> simp_all
  rw [hadd, cells_of (at_alloc w _)]
  simpa using h
end Go.Proofs.Ytkkjlioigdpacaa
