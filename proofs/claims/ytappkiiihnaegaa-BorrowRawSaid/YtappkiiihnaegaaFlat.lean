/- Rows of elements of several cells each. -/
import Derived.Test.YtappkiiihnaegaaScene
import Derived.Deep.MidRow
import Derived.Laws.OwnMore
import Derived.Laws.Rows
import Derived.Laws.ResultCell
namespace Go
namespace Stg
section
variable {α : Type}
/-- The cells of a list of elements. -/
def flat (f : α → List Value) (L : List α) : List Value := L.flatMap f
theorem flat_nil (f : α → List Value) : flat f [] = [] := rfl
theorem flat_cons (f : α → List Value) (a : α) (L : List α) : flat f (a :: L) = f a ++ flat f L := rfl
theorem flat_append (f : α → List Value) (L M : List α) : flat f (L ++ M) = flat f L ++ flat f M := by simp [flat]
theorem flat_one (f : α → List Value) (a : α) : flat f [a] = f a := by simp [flat]
variable {f : α → List Value} {m : Nat} (hm : ∀ a, (f a).length = m)
include hm
theorem flat_length (L : List α) : (flat f L).length = L.length * m := by
  induction L with
  | nil => simp [flat]
  | cons a L ih => rw [flat_cons, List.length_append, hm, ih, List.length_cons, Nat.succ_mul]; omega
theorem flat_at (L : List α) : ∀ (j k : Nat) (hj : j < L.length), k < m → (flat f L)[j * m + k]? = (f L[j])[k]? := by
  induction L with
  | nil => intro j k hj; simp at hj
  | cons a L ih =>
    intro j k hj hk
    rw [flat_cons]
    cases j with
    | zero => rw [Nat.zero_mul, Nat.zero_add, List.getElem?_append_left (by rw [hm]; exact hk)]; rfl
    | succ j =>
      rw [List.getElem?_append_right (by rw [hm, Nat.succ_mul]; omega), hm, show (j + 1) * m + k - m = j * m + k by rw [Nat.succ_mul]; omega]
      exact ih j k (by simpa using hj) hk
omit hm in
theorem flat_mem {L : List α} {u : Value} (P : Value → Prop) (hP : ∀ a, ∀ u ∈ f a, P u) (hu : u ∈ flat f L) : P u := by
  obtain ⟨a, _, h⟩ := List.mem_flatMap.1 hu
  exact hP a u h
end
/-- A list with some of its elements put anew. -/
def splice : List Value → Nat → List Value → List Value
  | xs, _, [] => xs
  | xs, o, v :: r => splice (xs.set o v) (o + 1) r
theorem splice_length : ∀ (vs xs : List Value) (o : Nat), (splice xs o vs).length = xs.length
  | [], _, _ => rfl
  | _ :: r, xs, o => by rw [splice, splice_length r]; simp
theorem splice_at : ∀ (vs xs : List Value) (o i : Nat), (splice xs o vs)[i]? = if o ≤ i ∧ i < o + vs.length ∧ i < xs.length then vs[i - o]? else xs[i]?
  | [], xs, o, i => by rw [if_neg (by simp; omega)]; rfl
  | v :: r, xs, o, i => by
    rw [splice, splice_at r]
    by_cases h1 : o = i
    · subst h1
      rw [if_neg (by omega)]
      by_cases h2 : o < xs.length
      · rw [if_pos (by simp; omega)]; simp [h2]
      · rw [if_neg (by omega), List.getElem?_eq_none (by simp; omega), List.getElem?_eq_none (by omega)]
    · rw [List.getElem?_set_ne h1, List.length_set, List.length_cons]
      by_cases h2 : o + 1 ≤ i ∧ i < o + 1 + r.length ∧ i < xs.length
      · rw [if_pos h2, if_pos (by omega), show i - o = (i - (o + 1)) + 1 by omega]; rfl
      · rw [if_neg h2, if_neg (by omega)]
section
variable {α : Type} {f : α → List Value} {m : Nat} (hm : ∀ a, (f a).length = m)
include hm
theorem flat_set (hm0 : 0 < m) (L : List α) (j : Nat) (hj : j < L.length) (a : α) : splice (flat f L) (j * m) (f a) = flat f (L.set j a) := by
  apply List.ext_getElem?
  intro i
  rw [splice_at, hm, flat_length hm]
  by_cases hi : i < L.length * m
  · have hq : i / m < L.length := Nat.div_lt_of_lt_mul (by rw [Nat.mul_comm]; exact hi)
    have hr : i % m < m := Nat.mod_lt _ hm0
    have e : i / m * m + i % m = i := Nat.div_add_mod' i m
    generalize i / m = q at *
    generalize i % m = r at *
    have e2 := flat_at hm (L.set j a) q r (by simpa using hq) hr
    have e1 := flat_at hm L q r hq hr
    rw [e] at e1 e2
    rw [e1, e2]
    by_cases hqj : q = j
    · subst hqj
      rw [if_pos ⟨by omega, by omega, hi⟩, List.getElem_set_self, show i - q * m = r by omega]
    · rw [List.getElem_set_ne (Ne.symm hqj), if_neg]
      rintro ⟨h1, h2, _⟩
      rcases Nat.lt_or_gt_of_ne hqj with h | h
      · have := Nat.mul_le_mul_right m (show q + 1 ≤ j by omega)
        rw [Nat.succ_mul] at this; omega
      · have := Nat.mul_le_mul_right m (show j + 1 ≤ q by omega)
        rw [Nat.succ_mul] at this; omega
  · rw [if_neg (by omega), List.getElem?_eq_none (by rw [flat_length hm]; omega), List.getElem?_eq_none (by rw [flat_length hm, List.length_set]; omega)]
end
section
variable {α : Type} {f : α → List Value} {m : Nat} (hm : ∀ a, (f a).length = m)
include hm
/-- One cell of one element. -/
theorem flat_set1 (L : List α) (j k : Nat) (hj : j < L.length) (hk : k < m) (a : α) (u : Value) (ha : f a = (f L[j]).set k u) : (flat f L).set (j * m + k) u = flat f (L.set j a) := by
  have hm0 : 0 < m := by omega
  apply List.ext_getElem?
  intro i
  by_cases hi : i < L.length * m
  · have hq : i / m < L.length := Nat.div_lt_of_lt_mul (by rw [Nat.mul_comm]; exact hi)
    have hr : i % m < m := Nat.mod_lt _ hm0
    have e : i / m * m + i % m = i := Nat.div_add_mod' i m
    generalize i / m = q at *
    generalize i % m = r at *
    have e2 := flat_at hm (L.set j a) q r (by simpa using hq) hr
    have e1 := flat_at hm L q r hq hr
    rw [e] at e1 e2
    rw [e2]
    by_cases hqj : q = j
    · subst hqj
      rw [List.getElem_set_self, ha]
      by_cases hrk : r = k
      · subst hrk
        rw [← e, List.getElem?_set_self (by rw [flat_length hm]; rw [e]; exact hi), List.getElem?_set_self (by rw [hm]; exact hk)]
      · rw [List.getElem?_set_ne (by omega), List.getElem?_set_ne (by omega), e1]
    · rw [List.getElem_set_ne (Ne.symm hqj), List.getElem?_set_ne, e1]
      intro e3
      rcases Nat.lt_or_gt_of_ne hqj with h | h
      · have := Nat.mul_le_mul_right m (show q + 1 ≤ j by omega)
        rw [Nat.succ_mul] at this; omega
      · have := Nat.mul_le_mul_right m (show j + 1 ≤ q by omega)
        rw [Nat.succ_mul] at this; omega
  · rw [List.getElem?_eq_none (by rw [List.length_set, flat_length hm]; omega), List.getElem?_eq_none (by rw [flat_length hm, List.length_set]; omega)]
end
theorem row_setCells {base e sz g n cap : Nat} : ∀ (vs xs : List Value) (o : Nat) (w : World), w.ownsRow base e sz (.slice (some ⟨g, 0, none⟩) n cap) n xs → (w.setCells g o vs).ownsRow base e sz (.slice (some ⟨g, 0, none⟩) n cap) n (splice xs o vs)
  | [], _, _, _, h => h
  | v :: r, xs, o, w, h => by
    rw [World.setCells, splice]
    exact row_setCells r _ _ _ (h.stored o v).1
theorem Mod.setCells {S : List Nat} {a : World} {b : Nat} (hb : b ∈ S ∨ a.heap.size ≤ b) : ∀ (vs : List Value) (o : Nat) (w : World), Mod S a w → Mod S a (w.setCells b o vs)
  | [], _, _, h => h
  | v :: r, o, w, h => by
    rw [World.setCells]
    exact Mod.setCells hb r _ _ (h.setCell (p := ⟨b, o, none⟩) hb v)
theorem size_setCells (b : Nat) : ∀ (vs : List Value) (o : Nat) (w : World), (w.setCells b o vs).heap.size = w.heap.size
  | [], _, _ => rfl
  | v :: r, o, w => by rw [World.setCells, size_setCells b r]; simp
section
variable {α : Type} {f : α → List Value} {m : Nat} (hm : ∀ a, (f a).length = m) {w : World} {base g n cap : Nat} {e : TypeId} {L : List α} (h : w.ownsRow base e m (.slice (some ⟨g, 0, none⟩) n cap) n (flat f L)) {j : Nat} (hj : j < L.length) (hn : L.length = n)
include hm h hj hn
theorem row_cell {k : Nat} (hk : k < m) : w.cell? ⟨g, j * m + k, none⟩ = (f L[j])[k]? := by
  rw [h.cellAt (j * m + k) (by subst hn; have := Nat.mul_le_mul_right m (show j + 1 ≤ L.length by omega); rw [Nat.succ_mul] at this; omega)]
  exact flat_at hm L j k hj hk
theorem row_range : w.rangeAt g (j * m) (f L[j]) := fun k v hv => by
  have hk : k < m := by rw [← hm L[j]]; exact (List.getElem?_eq_some_iff.1 hv).1
  rw [row_cell hm h hj hn hk]; exact hv
theorem row_there : w.there g (j * m) m := fun k hk => by
  refine ⟨?_, h.frozenAt _⟩
  rw [row_cell hm h hj hn hk, List.getElem?_eq_getElem (by rw [hm]; exact hk)]; rfl
omit hn in
theorem row_put (hm0 : 0 < m) (a : α) : (w.setCells g (j * m) (f a)).ownsRow base e m (.slice (some ⟨g, 0, none⟩) n cap) n (flat f (L.set j a)) := by
  rw [← flat_set hm hm0 L j hj a]
  exact row_setCells _ _ _ _ h
end
/-- A row that a slice owns. -/
def rowC (v : Value) (n : Nat) (e : TypeId) (sz : Nat) (xs : List Value) : Comp :=
  ⟨fun w f => w.ownsRow 0 e sz v n xs ∧ f = v.ownBlock.toList, fun h hm hT => ⟨row_mod h.1 hm fun g hg => hT g (by rw [h.2, hg]; simp), h.2⟩, fun h x hx => by rw [h.2, Option.mem_toList] at hx; exact (h.1.lt x hx).2⟩
/-- Behind an append to a row of the scene. -/
theorem Scene.grown {F : List Nat} {W w w' : World} {cs : List Comp} (i : Nat) {v v' : Value} {n n' sz : Nat} {e : TypeId} {xs ys : List Value} (h : Scene F W cs w) (hi : cs[i]? = some (rowC v n e sz xs)) (h2 : w'.ownsRow 0 e sz v' n' ys) (hg : w.grownBy w' v.ownBlock) (ho : ∀ x, v'.ownBlock = some x → v.ownBlock = some x ∨ w.heap.size ≤ x) :
    Scene F W (cs.set i (rowC v' n' e sz ys)) w' := by
  obtain ⟨f, ⟨_, hf⟩, hk⟩ := h.part i hi
  subst hf
  exact hk _ _ _ ⟨h2, rfl⟩ ((Mod.refl _ w).grown hg (fun k hk => .inl (by simp [hk]))) (fun x hx => (ho x (by simpa using hx)).imp (fun h => by simp [h]) id)
theorem Scene.row {F : List Nat} {W w : World} {cs : List Comp} (i : Nat) {v : Value} {n sz : Nat} {e : TypeId} {xs : List Value} (h : Scene F W cs w) (hi : cs[i]? = some (rowC v n e sz xs)) : w.ownsRow 0 e sz v n xs :=
  let ⟨_, h1, _⟩ := h.part i hi; h1.1
/-- One element of a row put anew. -/
theorem Scene.rowPut {α : Type} {f : α → List Value} {m : Nat} (hm : ∀ a, (f a).length = m) (hm0 : 0 < m) {F : List Nat} {W w : World} {cs : List Comp} (i : Nat) {g cap n : Nat} {e : TypeId} {L : List α}
    (h : Scene F W cs w) (hi : cs[i]? = some (rowC (.slice (some ⟨g, 0, none⟩) n cap) n e m (flat f L))) {j : Nat} (hj : j < L.length) (a : α) :
    Scene F W (cs.set i (rowC (.slice (some ⟨g, 0, none⟩) n cap) n e m (flat f (L.set j a)))) (w.setCells g (j * m) (f a)) := by
  obtain ⟨fp, ⟨h1, hf⟩, hk⟩ := h.part i hi
  subst hf
  exact hk _ _ _ ⟨row_put hm h1 hj hm0 a, rfl⟩ (Mod.setCells (.inl (by simp [Value.ownBlock])) _ _ _ (Mod.refl _ _)) (fun x hx => .inl hx)
/-- One cell of one element of a row put anew. -/
theorem Scene.rowSet {α : Type} {f : α → List Value} {m : Nat} (hm : ∀ a, (f a).length = m) {F : List Nat} {W w : World} {cs : List Comp} (i : Nat) {g cap n : Nat} {e : TypeId} {L : List α}
    (h : Scene F W cs w) (hi : cs[i]? = some (rowC (.slice (some ⟨g, 0, none⟩) n cap) n e m (flat f L))) {j k : Nat} (hj : j < L.length) (hk : k < m) (a : α) (u : Value) (ha : f a = (f L[j]).set k u) :
    Scene F W (cs.set i (rowC (.slice (some ⟨g, 0, none⟩) n cap) n e m (flat f (L.set j a)))) (w.setCell ⟨g, j * m + k, none⟩ u) := by
  obtain ⟨fp, ⟨h1, hf⟩, hk'⟩ := h.part i hi
  subst hf
  refine hk' _ _ _ ⟨?_, rfl⟩ ((Mod.refl _ _).setCell (.inl (by simp [Value.ownBlock])) u) (fun x hx => .inl hx)
  rw [← flat_set1 hm L j k hj hk a u ha]
  exact (h1.stored _ u).1
theorem made_flat {α : Type} {f : α → List Value} {m : Nat} (hm : ∀ a, (f a).length = m) (hm0 : 0 < m) (a : α) (cs : Array Value) (hc : cs.toList = f a) (n : Nat) : (madeCells cs (n * m)).toList = flat f (List.replicate n a) := by
  have hsz : cs.size = m := by rw [← Array.length_toList, hc, hm]
  apply List.ext_getElem?
  intro i
  by_cases hi : i < n * m
  · have hq : i / m < n := Nat.div_lt_of_lt_mul (by rw [Nat.mul_comm]; exact hi)
    have hr : i % m < m := Nat.mod_lt _ hm0
    have e : i / m * m + i % m = i := Nat.div_add_mod' i m
    have e1 := flat_at hm (List.replicate n a) (i / m) (i % m) (by simpa using hq) hr
    rw [e] at e1
    rw [e1, List.getElem_replicate, ← hc, Array.getElem?_toList]
    simp [madeCells, hi, hsz, hr]
  · have hl : (madeCells cs (n * m)).toList.length = n * m := by rw [Array.length_toList, size_madeCells]
    rw [List.getElem?_eq_none (by omega), List.getElem?_eq_none (by rw [flat_length hm]; simp; omega)]
/-- A function's results: a variable of several cells, and a number. -/
theorem ret_cell_tmp {P : Program} {fn : Func} {p u : Tmp} {ty t : TypeId} (h : fn.results = #[.cell p ty, .tmp u]) {tmps : Array Value} {w : World} {g : Nat} {cs : Array Value} {fr : Nat × Nat} {d : TypeDesc} {v : Value}
    (hp : tmps.getD p undef = .pointer (some ⟨g, 0, none⟩)) (hv : tmps.getD u undef = v) (hg : w.heap[g]? = some (.cells cs t fr)) (hu : P.underlying ty = some d) (hd : (match d with | .struct _ | .array _ _ => true | _ => false) = true) (hi : (P.info? ty).map (·.size) = some cs.size) :
    (results fn tmps).run P w = .ok (.tuple #[.agg cs, v]) w := by
  rw [results_cell_tmp h, hp, hv]
  simp [asAddr, Result.andThen, run_loadVar_row w g t ty cs fr d hg hu hd hi]
end Stg
end Go
