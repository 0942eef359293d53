/- Borrows: the library's sort of a row of borrows. -/
import Derived.Test.YtappkiiihnaegaaBMap
import Derived.Test.YtappkiiihnaegaaFlat
import Derived.Shelf.SlSortCmp.WholeK
import Derived.Shelf.SlSortCmp.NoneTotal
namespace Go.Proofs.Ytappkiiihnaegaa
open Go Go.RowKit Go.Stg Go.Sort Go.Proofs

theorem bcell_length (b : Bor) : (bcell b).length = 4 := rfl
theorem flatK_at (d : Array Bor) (i : Nat) (hi : i < d.size * 4) : (flat bcell d.toList)[i]? = some ((flatK bcell 4 d)[i]!) := by
  have hq : i / 4 < d.size := by omega
  have h1 := flat_at bcell_length d.toList (i / 4) (i % 4) (by simpa using hq) (Nat.mod_lt _ (by omega))
  rw [Nat.div_add_mod'] at h1
  rw [h1, get_flatK bcell 4 d i hi]
  have e : d[i / 4]! = d.toList[i / 4]'(by simpa using hq) := by rw [getElem!_pos d (i / 4) hq]; simp
  rw [e]
  have hr : i % 4 < (bcell (d.toList[i / 4]'(by simpa using hq))).length := by rw [bcell_length]; exact Nat.mod_lt _ (by omega)
  rw [List.getElem?_eq_getElem hr, getElem!_pos (bcell (d.toList[i / 4]'(by simpa using hq))) (i % 4) hr]
theorem holds_own {w : World} {base : Nat} {e : TypeId} {g n cap : Nat} {L : List Bor} (h : w.ownsRow base e 4 (.slice (some ⟨g, 0, none⟩) n cap) n (flat bcell L)) (hL : L.length = n) : HoldsK bcell 4 w g 0 L.toArray := by
  intro j hj
  have hj' : j < L.length * 4 := by simpa using hj
  rw [Nat.zero_add]
  refine ⟨?_, h.frozenAt j⟩
  rw [h.cellAt j (by omega)]
  have := flatK_at L.toArray j (by simpa using hj')
  simpa using this
theorem own_sorted {w : World} {base : Nat} {e : TypeId} {g n cap : Nat} {L : List Bor} (h : w.ownsRow base e 4 (.slice (some ⟨g, 0, none⟩) n cap) n (flat bcell L)) (d' : Array Bor) (hd : d'.size = n) (m : Nat) (os : Array Obj) :
    (sortWorldK bcell 4 w g 0 m d' os).ownsRow base e 4 (.slice (some ⟨g, 0, none⟩) n cap) n (flat bcell d'.toList) ∧ Mod [g] w (sortWorldK bcell 4 w g 0 m d' os) := by
  rcases h.2 with ⟨h, _⟩ | ⟨g', cap', cur, hv, h1, h2, h3, h4, h5, h6⟩
  · simp at h
  · simp at hv
    obtain ⟨rfl, rfl⟩ := hv
    have hg := lt_of h2
    have hb : (sortWorldK bcell 4 w g 0 m d' os).heap[g]? = some (.cells (putCells id 0 (flatK bcell 4 d') cur) e (0, 0)) := by
      unfold sortWorldK
      rw [heap_grow_old _ _ (by simpa [putRowK] using hg)]
      simp [putRowK, putRow, mapBlock, Sort.ahead, Array.getElem?_modify, h2, onCells]
    refine ⟨⟨by rw [flat_length bcell_length]; simp [hd], .inr ⟨g, cap, _, rfl, h1, hb, h3, h4, by simp [putCells, h5], ?_⟩⟩, ⟨rfl, rfl, rfl, ?_, fun k hk hkg => ?_⟩⟩
    · apply List.ext_getElem?
      intro i
      by_cases hi : i < n * 4
      · have hic : i < cur.size := by rw [h5]; have := Nat.mul_le_mul_right 4 h3; omega
        rw [List.getElem?_take_of_lt hi, flatK_at d' i (by rw [hd]; exact hi), Array.getElem?_toList]
        unfold putCells
        rw [Array.getElem?_mapIdx, Array.getElem?_eq_getElem hic]
        simp [hd, hi]
      · rw [List.getElem?_eq_none (by simp; omega), List.getElem?_eq_none (by rw [flat_length bcell_length]; simp [hd]; omega)]
    · unfold sortWorldK grow
      simp [putRowK]
    · unfold sortWorldK
      rw [heap_grow_old _ _ (by simpa [putRowK] using hk)]
      have hne : g ≠ k := fun e => hkg (by simp [e])
      simp [putRowK, putRow, mapBlock, Sort.ahead, Array.getElem?_modify, hne]
/-- How borrows are compared. -/
def cmpI (x y : Int) : Int := if x < y then -1 else if y < x then 1 else 0
def cf (a b : Bor) : Int := if cmpI a.1.1 b.1.1 ≠ 0 then cmpI a.1.1 b.1.1 else cmpI a.1.2 b.1.2
theorem ltOf_cf (a b : Bor) : ltOf cf a b = klt a.1 b.1 := by
  unfold ltOf cf cmpI klt
  by_cases h1 : a.1.1 < b.1.1
  · simp [h1]
  · by_cases h2 : b.1.1 < a.1.1
    · have : ¬ a.1.1 = b.1.1 := by omega
      simp [h2, this, h1]
    · have : a.1.1 = b.1.1 := by omega
      simp [h1, h2, this]
      by_cases h3 : a.1.2 < b.1.2
      · simp [h3]
      · by_cases h4 : b.1.2 < a.1.2 <;> simp [h3, h4]
theorem swo_cf : SWO (ltOf cf) where
  irrefl x := by rw [ltOf_cf]; exact klt_irrefl _
  trans x y z h1 h2 := by rw [ltOf_cf] at *; exact klt_trans h1 h2
  ntrans x y z h1 h2 := by
    rw [ltOf_cf] at *
    simp only [klt, Bool.or_eq_false_iff, Bool.and_eq_false_iff, decide_eq_false_iff_not] at *
    omega
/-- What the sort leaves, where no key comes twice. -/
theorem sorted_srt {d d' : Array Bor} (hn : (d.toList.map (·.1)).Nodup) (hp : PermIn 0 d.size d d') (hs : SortedIn (ltOf cf) 0 d.size d') : Srt d'.toList ∧ d'.toList.Perm d.toList ∧ d'.size = d.size := by
  obtain ⟨h1, _, h3⟩ := hp
  have hp' : d'.toList.Perm d.toList := by
    have e1 : d'.extract 0 d.size = d' := by rw [← h1, Array.extract_size]
    have e2 : d.extract 0 d.size = d := Array.extract_size
    rwa [e1, e2] at h3
  refine ⟨?_, hp', h1⟩
  have hn' : (d'.toList.map (·.1)).Nodup := ((hp'.map _).nodup_iff).2 hn
  unfold Srt
  rw [List.pairwise_iff_getElem]
  intro i j hi hj hij
  have hi' : i < d'.size := by simpa using hi
  have hj' : j < d'.size := by simpa using hj
  have hs' := hs i j (Nat.zero_le _) hij (by omega)
  rw [getElem!_pos d' i hi', getElem!_pos d' j hj', ltOf_cf] at hs'
  have hne : d'[j].1 ≠ d'[i].1 := by
    rw [List.Nodup, List.pairwise_map, List.pairwise_iff_getElem] at hn'
    have := hn' i j hi hj hij
    simp only [Array.getElem_toList] at this
    exact fun e => this e.symm
  have := klt_total hne hs'
  simpa using this
end Go.Proofs.Ytappkiiihnaegaa
