/- Borrows: rows of borrows. -/
import Derived.Test.YtappkiiihnaegaaBMap
import Derived.Test.YtappkiiihnaegaaFlat
import Derived.Test.YtappkiiihnaegaaBPure
namespace Go.Proofs.Ytappkiiihnaegaa
open Go Go.RowKit Go.Stg

theorem info_bor : (Try.prog.info? 25).map (fun i => (i.zero, i.size, i.bytes)) = some (some (bv b0), 4, 32) := by kernel_rfl
theorem add_at (b o j : Nat) : (⟨b, o, none⟩ : Addr).add j = ⟨b, o + j, none⟩ := by unfold Addr.add; split <;> simp_all
theorem cellsE (w : World) (l : List Value) (T : TypeId) (cs : Array Value) (hc : cs.toList = l) : ∀ j u, l[j]? = some u → (w.alloc (.cells cs T)).cell? ((⟨w.heap.size, 0, none⟩ : Addr).add j) = some u := by
  intro j u hu
  rw [add_at, Nat.zero_add, cells_of (at_alloc w (.cells cs T))]
  rw [← hc, Array.getElem?_toList] at hu
  exact hu
theorem bcell_len (b : Bor) : (bcell b).length = 4 := rfl
theorem snoc_take {α : Type} (L : List α) {k : Nat} (hk : k < L.length) : L.take (k + 1) = L.take k ++ [L[k]] := by
  rw [List.take_add_one, List.getElem?_eq_getElem hk]; rfl
/-- One borrow of a row. -/
theorem bor_cells {w : World} {base n k : Nat} {v : Value} {L : List Bor} (h : w.ownsRow base 25 4 v n (flat bcell L)) (hn : L.length = n) (hk : k < n) :
    ∃ g cap, v = .slice (some ⟨g, 0, none⟩) n cap ∧ base ≤ g ∧ g < w.heap.size ∧ ∃ xo xh xm xc, L.take (k + 1) = L.take k ++ [((xo, xh), (xm, xc))] ∧ L[k]? = some ((xo, xh), (xm, xc)) ∧
      w.cell? ⟨g, k * 4, none⟩ = some (.int .i64 xo) ∧ w.cell? ⟨g, k * 4 + 1, none⟩ = some (.int .i64 xh) ∧ w.cell? ⟨g, k * 4 + 2, none⟩ = some (.int .i64 xm) ∧ w.cell? ⟨g, k * 4 + 3, none⟩ = some (.int .i64 xc) := by
  obtain ⟨g, cap, rfl, hb, hg⟩ := row_pos h (by omega)
  have hk' : k < L.length := by omega
  have r0 := row_cell bcell_len h hk' hn (k := 0) (by omega)
  have r1 := row_cell bcell_len h hk' hn (k := 1) (by omega)
  have r2 := row_cell bcell_len h hk' hn (k := 2) (by omega)
  have r3 := row_cell bcell_len h hk' hn (k := 3) (by omega)
  exact ⟨g, cap, rfl, hb, hg, L[k].1.1, L[k].1.2, L[k].2.1, L[k].2.2, snoc_take L hk', by rw [List.getElem?_eq_getElem hk'], r0, r1, r2, r3⟩
theorem filt_yes {L : List Bor} {k : Nat} {x : Bor} (hs : L.take (k + 1) = L.take k ++ [x]) {p : Bor → Bool} (hp : p x = true) : (L.take (k + 1)).filter p = (L.take k).filter p ++ [x] := by rw [hs, List.filter_append]; simp [hp]
theorem filt_no {L : List Bor} {k : Nat} {x : Bor} (hs : L.take (k + 1) = L.take k ++ [x]) {p : Bor → Bool} (hp : p x = false) : (L.take (k + 1)).filter p = (L.take k).filter p := by rw [hs, List.filter_append]; simp [hp]
theorem filt_len (L : List Bor) (k : Nat) (p : Bor → Bool) : ((L.take k).filter p).length ≤ L.length := by
  have h1 := List.length_filter_le p (L.take k)
  have h2 : (L.take k).length ≤ L.length := by rw [List.length_take]; omega
  omega
end Go.Proofs.Ytappkiiihnaegaa
