/- Generations: what runs out. -/
import Derived.Test.YtcdmapllligjhaaGenL
namespace Go.Proofs.Ytcdmapllligjhaa
open Go Go.RowKit Go.Stg

theorem set_perm {α : Type} (D : List α) (z : α) (i : Nat) (hi : i < D.length) : (D ++ [z]).Perm (D[i] :: D.set i z) := by
  have h1 : D = D.take i ++ D[i] :: D.drop (i + 1) := by rw [← List.drop_eq_getElem_cons hi, List.take_append_drop]
  have h2 : D.set i z = D.take i ++ z :: D.drop (i + 1) := List.set_eq_take_append_cons_drop ▸ (by rw [if_pos hi])
  rw [h2]
  refine List.Perm.trans (l₂ := D[i] :: (D.take i ++ D.drop (i + 1)) ++ [z]) ?_ ?_
  · refine List.Perm.append_right _ ?_
    conv => lhs; rw [h1]
    exact List.perm_middle
  · refine List.Perm.cons _ ?_
    refine List.Perm.trans ?_ List.perm_middle.symm
    exact List.perm_append_comm
theorem takeAt_perm {α : Type} (l : List α) (i : Nat) (h : 0 < l.length) (hi : i < l.length) : l.Perm (l[i] :: takeAt l i h) := by
  have hne : l ≠ [] := by intro e; simp [e] at h
  have hl : l = l.dropLast ++ [l[l.length - 1]] := by rw [← List.getLast_eq_getElem hne]; exact (List.dropLast_concat_getLast hne).symm
  have hll : l.dropLast.length = l.length - 1 := List.length_dropLast
  unfold takeAt
  generalize l.dropLast = D at *
  generalize l[l.length - 1] = z at *
  subst hl
  by_cases hlast : i = D.length
  · subst hlast
    simp
  · have hd : i < D.length := by simp at hi; omega
    rw [List.set_append_left _ _ hd, List.dropLast_concat, List.getElem_append_left hd]
    exact set_perm D z i hd

def nextG (first g : Int) : Int := if g = 0 then first else g + 1
def slotOf (S : List Slot) (x : Int) : Slot := S.getD x.toNat (0, false)
/-- How often a slot can still be issued. -/
def remG (first : Int) (S : List Slot) (x : Int) : Int := 4294967295 - nextG first (slotOf S x).1 + 1
def sumG : List Int → Int
  | [] => 0
  | x :: l => x + sumG l
theorem sumG_perm {l m : List Int} (h : l.Perm m) : sumG l = sumG m := by
  induction h with
  | nil => rfl
  | cons x _ ih => simp [sumG, ih]
  | swap x y l => simp only [sumG]; omega
  | trans _ _ h1 h2 => exact h1.trans h2
theorem sumG_append (l : List Int) (x : Int) : sumG (l ++ [x]) = sumG l + x := by
  induction l with
  | nil => simp [sumG]
  | cons y l ih => simp only [List.cons_append, sumG, ih]; omega
theorem slotOf_nat (S : List Slot) (m : Nat) (h : m < S.length) : slotOf S m = S[m] := by simp [slotOf, List.getD_eq_getElem?_getD, List.getElem?_eq_getElem h]
structure RInv (n : Nat) (first : Int) (S : List Slot) (F : List Int) (ret t : Int) : Prop where
  len : S.length = n
  nd : F.Nodup
  free : ∀ x ∈ F, ∃ m : Nat, x = m ∧ m < n
  dead : ∀ m (h : m < S.length), S[m].2 = false
  gens : ∀ m (h : m < S.length), 0 ≤ S[m].1 ∧ S[m].1 ≤ 4294967295
  low : ∀ x ∈ F, (slotOf S x).1 < 4294967295
  cnt : (F.length : Int) + ret = n
  tot : sumG (F.map (remG first S)) = t
  ret0 : 0 ≤ ret
theorem RInv.short {n : Nat} {first : Int} {S : List Slot} {F : List Int} {ret t : Int} (h : RInv n first S F ret t) (hf : first ≤ 4294967295) : (F.length : Int) ≤ t := by
  rw [← h.tot]
  have hl := h.low
  clear h
  induction F with
  | nil => simp [sumG]
  | cons x l ih =>
    have ih := ih (fun y hy => hl y (by simp [hy]))
    have hx := hl x (by simp)
    have h1 : 1 ≤ remG first S x := by
      unfold remG nextG
      split <;> omega
    simp only [List.map_cons, sumG, List.length_cons]
    push_cast
    omega
theorem RInv.start (n : Nat) (first : Int) : RInv n first (fresh n) (upTo n) 0 (n * (4294967295 - first + 1)) := by
  refine ⟨fresh_length n, ?_, fun x hx => ?_, fun m h => by simp [fresh], fun m h => by simp [fresh], fun x hx => ?_, by simp [upTo_length], ?_, Int.le_refl 0⟩
  · unfold upTo List.Nodup
    rw [List.pairwise_map]
    exact List.Pairwise.imp (fun h e => h (Int.ofNat.inj e)) List.nodup_range
  · simp only [upTo, List.mem_map, List.mem_range] at hx
    obtain ⟨m, h, rfl⟩ := hx
    exact ⟨m, rfl, h⟩
  · simp only [upTo, List.mem_map, List.mem_range] at hx
    obtain ⟨m, h, rfl⟩ := hx
    show (slotOf (fresh n) (m : Int)).1 < _
    rw [slotOf_nat _ m (by rw [fresh_length]; exact h)]
    simp [fresh]
  · have hr : ∀ k, k ≤ n → sumG ((upTo k).map (remG first (fresh n))) = k * (4294967295 - first + 1) := by
      intro k
      induction k with
      | zero => intro _; simp [upTo, sumG]
      | succ k ih =>
        intro hk
        rw [upTo_succ, List.map_append, List.map_singleton, sumG_append, ih (by omega)]
        have : remG first (fresh n) k = 4294967295 - first + 1 := by
          unfold remG
          rw [slotOf_nat _ k (by rw [fresh_length]; omega)]
          simp [fresh, nextG]
        rw [this]
        push_cast
        rw [Int.add_mul, Int.one_mul]
    exact hr n (Nat.le_refl _)
theorem RInv.step {n : Nat} {first : Int} {S : List Slot} {F : List Int} {ret t : Int} (h : RInv n first S F ret t) (hf1 : 1 ≤ first) (hf2 : first ≤ 4294967295) (hn : 0 < F.length) {i : Nat} (hi : i < F.length) {j : Nat} (hj : F[i] = j) (hjl : j < S.length) (g' : Int) (hg : g' = nextG first S[j].1) (F' : List Int) (r' : Int)
    (hc : (g' = 4294967295 ∧ r' = ret + 1 ∧ F' = takeAt F i hn) ∨ (g' ≠ 4294967295 ∧ r' = ret ∧ F' = takeAt F i hn ++ [(j : Int)])) : RInv n first (S.set j (g', false)) F' r' (t - 1) := by
  have hp := takeAt_perm F i hn hi
  rw [hj] at hp
  have hnd := List.nodup_cons.1 (hp.nodup_iff.1 h.nd)
  have hmem : ∀ x ∈ takeAt F i hn, x ∈ F := fun x hx => hp.mem_iff.2 (List.mem_cons_of_mem _ hx)
  have hlow := h.low j (hp.mem_iff.2 (by simp))
  rw [slotOf_nat S j hjl] at hlow
  obtain ⟨hg0, hg1⟩ := h.gens j hjl
  have hg2 : 1 ≤ g' ∧ g' ≤ 4294967295 := by
    rw [hg]; unfold nextG
    split <;> omega
  have hother : ∀ x ∈ takeAt F i hn, slotOf (S.set j (g', false)) x = slotOf S x := fun x hx => by
    obtain ⟨m, rfl, hm⟩ := h.free x (hmem x hx)
    have hmj : m ≠ j := fun e => hnd.1 (by rw [e] at hx; exact hx)
    unfold slotOf
    simp only [Int.toNat_natCast, List.getD_eq_getElem?_getD]
    rw [List.getElem?_set_ne (Ne.symm hmj)]
  have hsame : (takeAt F i hn).map (remG first (S.set j (g', false))) = (takeAt F i hn).map (remG first S) := by
    apply List.map_congr_left
    intro x hx
    unfold remG
    rw [hother x hx]
  have htot := h.tot
  rw [sumG_perm (hp.map (remG first S)), List.map_cons, sumG] at htot
  have hrj : remG first S j = 4294967295 - g' + 1 := by unfold remG; rw [slotOf_nat S j hjl, ← hg]
  have hjs : slotOf (S.set j (g', false)) j = (g', false) := by
    rw [slotOf_nat _ j (by simpa using hjl)]; simp
  have hlen := takeAt_length F i hn
  have hset : ∀ m (hm : m < (S.set j (g', false)).length), (S.set j (g', false))[m] = if j = m then (g', false) else S[m]'(by simpa using hm) := fun m hm => by rw [List.getElem_set]
  have hcnt := h.cnt
  have hdead : ∀ m (hm : m < (S.set j (g', false)).length), (S.set j (g', false))[m].2 = false := fun m hm => by
    rw [hset m hm]
    split
    · rfl
    · exact h.dead m _
  have hgens : ∀ m (hm : m < (S.set j (g', false)).length), 0 ≤ (S.set j (g', false))[m].1 ∧ (S.set j (g', false))[m].1 ≤ 4294967295 := fun m hm => by
    rw [hset m hm]
    split
    · exact ⟨by show 0 ≤ g'; omega, hg2.2⟩
    · exact h.gens m _
  have hsl : (S.set j (g', false)).length = n := by rw [List.length_set]; exact h.len
  rcases hc with ⟨rfl, rfl, rfl⟩ | ⟨hne, rfl, rfl⟩
  · refine ⟨hsl, hnd.2, fun x hx => h.free x (hmem x hx), hdead, hgens, fun x hx => by rw [hother x hx]; exact h.low x (hmem x hx), by rw [hlen]; omega, ?_, by have := h.ret0; omega⟩
    rw [hsame]
    omega
  · refine ⟨hsl, ?_, fun x hx => ?_, hdead, hgens, fun x hx => ?_, by rw [List.length_append, hlen, List.length_singleton]; omega, ?_, h.ret0⟩
    · rw [List.nodup_append]
      refine ⟨hnd.2, by simp, fun x hx y hy e => ?_⟩
      rw [List.mem_singleton.1 hy] at e
      subst e
      exact hnd.1 hx
    · rcases List.mem_append.1 hx with hx | hx
      · exact h.free x (hmem x hx)
      · exact ⟨j, List.mem_singleton.1 hx, by rw [← h.len]; exact hjl⟩
    · rcases List.mem_append.1 hx with hx | hx
      · rw [hother x hx]; exact h.low x (hmem x hx)
      · rw [List.mem_singleton.1 hx, hjs]
        show g' < _
        omega
    · rw [List.map_append, List.map_singleton, sumG_append, hsame]
      have : remG first (S.set j (g', false)) j = 4294967295 - g' := by
        unfold remG nextG
        rw [hjs, if_neg (show g' ≠ 0 by omega)]
        omega
      rw [this]
      omega
end Go.Proofs.Ytcdmapllligjhaa
