/- From a walk to a law's row: arguments opened, the row's post closed. -/
import Derived.Test.YtbjjeacdgbppoaaRows
import Derived.Test.YtbjjeacdgbppoaaBase
import Derived.ProofKit
import Derived.OpenShut
import Derived.Deep.Slices
import Derived.Carry
namespace Go
namespace Stg
open Go.ChangeShapes Go.WideShapes Go.ChangeAt Go.RowKit

section
variable {P : Program} {H : Type} {enc : TypeId × Value → H}

theorem cell_int {w : World} {r : Reach} {base : Nat} {u : TypeId} {k : IntKind} {x : Value} (hu : P.underlying u = some (.int k)) (h : Cell.okWide P w r base u x) : ∃ n, x = .int k n ∧ k.min ≤ n ∧ n ≤ k.max := by
  unfold Cell.okWide at h
  rw [hu] at h
  unfold Cell.ok at h
  rw [hu] at h
  cases x <;> simp at h
  obtain ⟨rfl, h⟩ := h
  exact ⟨_, rfl, h.1, h.2⟩

/-- An array or a struct whose cells are all integers of one kind. -/
theorem open_int_agg {w : World} {r : Reach} {base : Nat} {t : TypeId} {v : Value} {ts : List TypeId} {k : IntKind} (ha : (match P.underlying t with | some (.struct _) | some (.array _ _) => true | _ => false) = true)
    (hts : P.cellTypes P.depth t = some ts) (hC : P.cellsOf t = ts.length) (hk : ∀ u ∈ ts, P.underlying u = some (.int k)) (hval : Value.okWide P w r base t v) :
    ∃ ns : List Int, v = .agg (ns.map (Value.int k)).toArray ∧ ns.length = ts.length ∧ ∀ n ∈ ns, k.min ≤ n ∧ n ≤ k.max := by
  have h : ∃ cs, v = .agg cs ∧ cs.size = P.cellsOf t ∧ Row.okWide P w r base t cs := by
    unfold Value.okWide at hval
    split at hval
    · exact hval
    · exact hval
    · rename_i h1 h2
      split at ha
      · rename_i hs; exact absurd hs (h1 _)
      · rename_i hs; exact absurd hs (h2 _ _)
      · cases ha
  obtain ⟨cs, rfl, hsz, ts', hts', _, hrow⟩ := h
  have : ts' = ts := by rw [hts] at hts'; exact (Option.some.inj hts').symm
  subst this
  have each : ∀ i (hi : i < cs.size), ∃ n, cs[i] = .int k n ∧ k.min ≤ n ∧ n ≤ k.max := fun i hi => by
    obtain ⟨u, hu, hc⟩ := hrow i cs[i] (by simp [hi])
    have hm : i % ts'.length = i := Nat.mod_eq_of_lt (by omega)
    rw [hm] at hu
    exact cell_int (hk u (List.mem_of_getElem? hu)) hc
  refine ⟨cs.toList.map intOf, ?_, by simp; omega, ?_⟩
  · congr 1
    apply Array.ext
    · simp
    · intro i h1 h2
      obtain ⟨n, hn, _⟩ := each i h1
      simp [hn, intOf]
  · intro n hn
    simp only [List.mem_map] at hn
    obtain ⟨x, hx, rfl⟩ := hn
    obtain ⟨i, hi, rfl⟩ := List.mem_iff_getElem.1 hx
    simp only [Array.length_toList] at hi
    obtain ⟨m, hm, h1⟩ := each i hi
    simp only [Array.getElem_toList, hm, intOf]
    exact h1

theorem trodAll_stays (hl : laidOutB P = true) {W W' : World} (hb : Below W.heap.size W W') : ∀ (ts : List TypeId) (vs : List Value) (ds : List (DataW H)) (ps : List MemPlace), (∀ t ∈ ts, P.readableRec t = true ∧ t < P.types.size) →
    DataW.TrodAll enc P W 0 (fun _ => true) true ts vs ds ps → (∀ x ∈ ps, x.block < W.heap.size) → DataW.TrodAll enc P W' 0 (fun b => decide (b < W.heap.size)) true ts vs ds ps
  | [], vs, ds, ps, _, h, _ => by
    obtain ⟨rfl, rfl, rfl⟩ := trodAll_nil h
    exact trodAll_mk0
  | t :: ts, vs, ds, ps, ht, h, hlt => by
    obtain ⟨v, vs', d, ds', p, q, rfl, rfl, rfl, h1, h2⟩ := trodAll_cons h
    obtain ⟨r1, r2⟩ := ht t (by simp)
    exact trodAll_cons_mk (Below.trod hl r1 r2 h1 hb (fun x hx => hlt x (by simp [hx]))) (trodAll_stays hl hb ts vs' ds' q (fun t h => ht t (by simp [h])) h2 (fun x hx => hlt x (by simp [hx])))

/-- The row's post, from the walk's. -/
theorem law_close {f : Func} {s : ChangeSpec} {W W' : World} {args : Array Value} {ds gs : List (DataW H)} {before : List MemPlace} {bt : TypeId}
    (hW : DataW.Whole enc P f.params.toList s.vars false W args.toList ds gs before) (hl : laidOutB P = true) (hts : ∀ t ∈ f.params.toList, P.readableRec t = true ∧ t < P.types.size) (hv : s.vars = [])
    (hb : Mod [] W W') (hres : f.resultTypes = #[bt]) (hbt : P.underlying bt = some .bool) (hspec : s.fn H (ds ++ gs) = { results := [.lit (.bool true)], args := ds }) :
    s.post enc P f false true false false W args (.bool true) W' := by
  have hW0 := hW
  have hlt := hW.lt
  obtain ⟨p, q, hA, hV, rfl, hfz, hnd⟩ := hW
  have hV' := hV
  rw [hv] at hV'
  obtain ⟨hg, hq⟩ := trodVars_none hV'
  refine ⟨ds, gs, p ++ q, [], p, [], hW0, ?_, ?_, ?_, hb.below.frame _, fun h => by cases h⟩
  · rw [hspec, hres]
    exact trodAll_mk1 (shut_bool hbt true)
  · rw [hspec]
    exact trodAll_stays hl hb.below _ _ _ _ hts hA (fun x hx => hlt x (by simp [hx]))
  · rw [hspec, hv]
    rfl
end
end Stg
end Go
