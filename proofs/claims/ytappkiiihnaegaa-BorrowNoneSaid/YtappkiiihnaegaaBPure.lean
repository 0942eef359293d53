/- Borrows: more of the plain law. -/
import Derived.Test.YtappkiiihnaegaaBor
namespace Go.Proofs.Ytappkiiihnaegaa
open Go Go.RowKit Go.Stg

/-- A borrow that is lent once more has the mode asked for. -/
theorem lend_mode {N : Int} {L : List Bor} (h : LInv N L) {o k m : Int} {b : Bor} (hg : getB L (o, k) = some b) (he : lendE L o m = 0) : b = ((o, k), (m, b.2.2)) := by
  obtain ⟨hb, hk⟩ := getB_some hg
  have hm := modeO_of h hb (o := o) (by rw [hk])
  have hr := h.mode b hb
  have : b.2.1 = m := by
    unfold lendE at he
    split at he
    · cases he
    · split at he
      · cases he
      · omega
  obtain ⟨bk, bm, bc⟩ := b
  simp only at *
  rw [hk, this]
theorem cntOf_some {L : List Bor} {k : Int × Int} {b : Bor} (hg : getB L k = some b) : cntOf L k = b.2.2 := by unfold cntOf; rw [hg]
theorem cntOf_none {L : List Bor} {k : Int × Int} (hg : getB L k = none) : cntOf L k = 0 := by unfold cntOf; rw [hg]
/-! the number of borrows of an object -/
theorem ofO_without {L : List Bor} (hn : (L.map (·.1)).Nodup) {k : Int × Int} {b : Bor} (hg : getB L k = some b) (o : Int) : (ofO L o).length = (if k.1 = o then 1 else 0) + (ofO (without L k) o).length := by
  rw [(ofO_perm (getB_perm hn hg) o).length_eq, ofO_cons, (getB_some hg).2]
theorem ofO_put (L : List Bor) (b : Bor) (o : Int) : (ofO (putB L b) o).length = (if b.1.1 = o then 1 else 0) + (ofO (without L b.1) o).length := by
  rw [(ofO_perm (put_perm L b) o).length_eq, ofO_cons]
theorem ofO_put_old {L : List Bor} (hn : (L.map (·.1)).Nodup) {x b : Bor} (hg : getB L b.1 = some x) (o : Int) : (ofO (putB L b) o).length = (ofO L o).length := by
  rw [ofO_put, ofO_without hn hg]
theorem ofO_put_new {L : List Bor} {b : Bor} (hg : getB L b.1 = none) (o : Int) : (ofO (putB L b) o).length = (if b.1.1 = o then 1 else 0) + (ofO L o).length := by
  rw [ofO_put, without_none hg]
/-! keys that are taken away one after the other -/
def dropK (L : List Bor) (ks : List (Int × Int)) : List Bor := L.filter fun b => decide (b.1 ∉ ks)
theorem dropK_nil (L : List Bor) : dropK L [] = L := by unfold dropK; rw [List.filter_eq_self]; simp
theorem dropK_snoc (L : List Bor) (ks : List (Int × Int)) (k : Int × Int) : dropK L (ks ++ [k]) = without (dropK L ks) k := by
  unfold dropK without
  rw [List.filter_filter]
  congr 1
  funext b
  by_cases h1 : b.1 = k <;> by_cases h2 : b.1 ∈ ks <;> simp [h1, h2]
theorem dropK_inv {N : Int} {L : List Bor} (h : LInv N L) (ks : List (Int × Int)) : LInv N (dropK L ks) := h.filter _
theorem dropK_len (L : List Bor) (ks : List (Int × Int)) : (dropK L ks).length ≤ L.length := List.length_filter_le _ _
theorem dropK_get {L : List Bor} (hn : (L.map (·.1)).Nodup) {ks : List (Int × Int)} {b : Bor} (hb : b ∈ L) (hk : b.1 ∉ ks) : getB (dropK L ks) b.1 = some b :=
  getB_of ((List.filter_sublist.map _).nodup hn) (List.mem_filter.2 ⟨hb, by simpa using hk⟩)
/-- All borrows that a test finds are taken away. -/
def cut (L : List Bor) (p : Bor → Bool) : List Bor := L.filter fun b => !p b
theorem dropK_all (L : List Bor) (hn : (L.map (·.1)).Nodup) (p : Bor → Bool) : dropK L ((L.filter p).map (·.1)) = cut L p := by
  unfold dropK cut
  apply List.filter_congr
  intro b hb
  have hiff : b.1 ∈ (L.filter p).map (·.1) ↔ p b = true := by
    constructor
    · intro h
      obtain ⟨x, hx, e⟩ := List.mem_map.1 h
      obtain ⟨hx1, hx2⟩ := List.mem_filter.1 hx
      have h1 := getB_of hn hx1
      have h2 := getB_of hn hb
      rw [e, h2] at h1
      cases h1
      exact hx2
    · intro h
      exact List.mem_map_of_mem (List.mem_filter.2 ⟨hb, h⟩)
  cases hp : p b with
  | true => simp only [hiff, hp]; rfl
  | false => simp only [hiff, hp]; rfl
theorem cut_inv {N : Int} {L : List Bor} (h : LInv N L) (p : Bor → Bool) : LInv N (cut L p) := h.filter _
theorem cut_len (L : List Bor) (p : Bor → Bool) : (cut L p).length ≤ L.length := List.length_filter_le _ _
theorem cut_none {L : List Bor} {p : Bor → Bool} (h : L.filter p = []) : cut L p = L := by
  unfold cut
  rw [List.filter_eq_self]
  intro a ha
  cases hp : p a with
  | false => rfl
  | true =>
    have : a ∈ L.filter p := List.mem_filter.2 ⟨ha, hp⟩
    rw [h] at this; cases this
theorem put_len (L : List Bor) (b : Bor) : (putB L b).length ≤ L.length + 1 := by
  rw [(put_perm L b).length_eq, List.length_cons]
  have : (without L b.1).length ≤ L.length := List.length_filter_le _ _
  omega
theorem lend_len (L : List Bor) (o k m : Int) : (lendL L o k m).length ≤ L.length + 1 := by
  unfold lendL
  split
  · exact put_len _ _
  · omega
theorem rel_len {L : List Bor} (hn : (L.map (·.1)).Nodup) (k : Int × Int) : (relL L k).length ≤ L.length := by
  unfold relL
  cases hg : getB L k with
  | none => exact Nat.le_refl _
  | some b =>
    simp only
    split
    · exact List.length_filter_le _ _
    · rw [(put_perm L _).length_eq, (getB_perm hn hg).length_eq]; exact Nat.le_refl _
/-! a borrow finds its place from the end -/
theorem ins_split (b : Bor) : ∀ (A C : List Bor), (∀ a ∈ A, klt b.1 a.1 = false) → (∀ c ∈ C, klt b.1 c.1 = true) → ins b (A ++ C) = A ++ b :: C
  | [], [], _, _ => rfl
  | [], c :: C, _, h => by simp [ins, h c (by simp)]
  | a :: A, C, h, h' => by
    have ha : klt b.1 a.1 = false := h a (by simp)
    simp only [List.cons_append, ins]
    rw [if_neg (by simp [ha]), ins_split b A C (fun x hx => h x (List.mem_cons_of_mem _ hx)) h']
/-- The last one before it is less: its place is found. -/
theorem ins_here {b a : Bor} {A C : List Bor} (hS : Srt (A ++ [a])) (h : klt a.1 b.1 = true) (hC : ∀ c ∈ C, klt b.1 c.1 = true) : ins b ((A ++ [a]) ++ C) = (A ++ [a]) ++ b :: C := by
  refine ins_split b _ _ (fun x hx => ?_) hC
  rcases List.mem_append.1 hx with hx | hx
  · have := (List.pairwise_append.1 hS).2.2 x hx a (by simp)
    exact klt_asymm (klt_trans this h)
  · rw [List.mem_singleton.1 hx]; exact klt_asymm h
end Go.Proofs.Ytappkiiihnaegaa
