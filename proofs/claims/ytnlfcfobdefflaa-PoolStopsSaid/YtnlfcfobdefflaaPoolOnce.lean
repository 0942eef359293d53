/- PoolOnce: the walk of the law. -/
import Derived.Test.YtnlfcfobdefflaaPoolA
import Derived.Laws.OwnMore
namespace Go.Proofs.Ytnlfcfobdefflaa
open Go Go.RowKit Go.Stg

theorem set_perm {α : Type} (D : List α) (z : α) (i : Nat) (hi : i < D.length) : (D ++ [z]).Perm (D[i] :: D.set i z) := by
  have h1 : D = D.take i ++ D[i] :: D.drop (i + 1) := by rw [← List.drop_eq_getElem_cons hi, List.take_append_drop]
  have h2 : D.set i z = D.take i ++ z :: D.drop (i + 1) := List.set_eq_take_append_cons_drop ▸ (by rw [if_pos hi])
  rw [h2]
  refine List.Perm.trans (l₂ := D[i] :: (D.take i ++ D.drop (i + 1)) ++ [z]) ?_ ?_
  · refine List.Perm.append_right _ ?_
    conv => lhs; rw [h1]
    exact List.perm_middle
  · refine List.Perm.cons _ ?_
    refine List.Perm.trans ?_ List.perm_middle.symm
    exact List.perm_append_comm
theorem takeAt_perm {α : Type} (l : List α) (i : Nat) (h : 0 < l.length) (hi : i < l.length) : l.Perm (l[i] :: takeAt l i h) := by
  have hne : l ≠ [] := by intro e; simp [e] at h
  have hl : l = l.dropLast ++ [l[l.length - 1]] := by rw [← List.getLast_eq_getElem hne]; exact (List.dropLast_concat_getLast hne).symm
  have hll : l.dropLast.length = l.length - 1 := List.length_dropLast
  unfold takeAt
  generalize l.dropLast = D at *
  generalize l[l.length - 1] = z at *
  subst hl
  by_cases hlast : i = D.length
  · subst hlast
    simp
  · have hd : i < D.length := by simp at hi; omega
    rw [List.set_append_left _ _ hd, List.dropLast_concat, List.getElem_append_left hd]
    exact set_perm D z i hd

/-- A list of draws, as it came in. -/
def DrawsAt (w : World) (v : Value) (ds : List Int) : Prop :=
  (v = .slice none 0 0 ∧ ds = []) ∨ ∃ sb so cap, v = .slice (some ⟨sb, so, none⟩) ds.length cap ∧ sb < w.heap.size ∧ ds.length ≤ maxLen ∧
    ∀ i (h : i < ds.length), w.cell? ⟨sb, so + i, none⟩ = some (.int .u64 ds[i]) ∧ 0 ≤ ds[i] ∧ ds[i] ≤ 18446744073709551615
theorem DrawsAt.len {w0 : World} {v : Value} {ds : List Int} (h : DrawsAt w0 v ds) (ty : TypeId) (w : World) : (Builtin.len_ #[23] ty #[v]).run Try.prog w = .ok (.int .i64 ds.length) w := by
  rcases h with ⟨rfl, rfl⟩ | ⟨sb, so, cap, rfl, _⟩ <;> simp [Builtin.len_, run_underlying Try.underlying23, goInt]
theorem DrawsAt.mod {w w' : World} {v : Value} {ds : List Int} (h : DrawsAt w v ds) (hm : Mod [] w w') : DrawsAt w' v ds := by
  rcases h with h | ⟨sb, so, cap, h1, h2, h3, h4⟩
  · exact .inl h
  · refine .inr ⟨sb, so, cap, h1, hm.lt h2, h3, fun i hi => ?_⟩
    obtain ⟨a, b⟩ := h4 i hi
    exact ⟨(cell_mod hm h2 (by simp)).trans a, b⟩

/-- A pool of numbers that was made after W. -/
def Held (W : World) (b : Nat) (xs : List Int) (w : World) : Prop :=
  ∃ sv, Mod [] W w ∧ PoolAt 57 3 w b sv (xs.map (.int .i64)) ∧ W.heap.size ≤ b ∧ ∀ x, sv.ownBlock = some x → W.heap.size ≤ x
theorem Held.mod {W w : World} {b : Nat} {xs : List Int} (h : Held W b xs w) : Mod [] W w := let ⟨_, h, _⟩ := h; h
theorem Held.then {W w w' : World} {b : Nat} {xs : List Int} (h : Held W b xs w) (hm : Mod [] w w') : Held W b xs w' := by
  obtain ⟨sv, h1, h2, h3⟩ := h
  exact ⟨sv, h1.nil_then hm, h2.mod hm (by simp), h3⟩
theorem Held_New (w : World) : Calls Try.prog 11 #[.slice none 0 0] w fun e w' => ∃ b, e = .returned (.pointer (some ⟨b, 0, none⟩)) ∧ Held w b [] w' :=
  (NewI_made _ [] w (by simp) (CloneI_nil w) ⟨_, _, _, rfl⟩).mono fun e w' ⟨b, sv, he, hm, hp, hb, hs⟩ => ⟨b, he, sv, hm, hp, hb, hs⟩
theorem Held_Put {W w : World} {b : Nat} {xs : List Int} (h : Held W b xs w) (x : Int) (hl : xs.length < 1000000) : Calls Try.prog 13 #[.pointer (some ⟨b, 0, none⟩), .int .i64 x] w fun e w' => e = .returned (.tuple #[]) ∧ Held W b (xs ++ [x]) w' := by
  obtain ⟨sv, h1, h2, h3, h4⟩ := h
  refine (PutI_any x b sv _ w h2 (by simpa using hl)).mono ?_
  rintro e w' ⟨sv', rfl, hm, hp, hs⟩
  refine ⟨rfl, sv', h1.then hm (fun x hx => .inr ?_), by simpa using hp, h3, fun x hx => ?_⟩
  · rcases List.mem_cons.1 hx with rfl | hx
    · exact h3
    · exact h4 x (by simpa using hx)
  · rcases hs x hx with h | h
    · exact h4 x h
    · exact Nat.le_trans h1.size h
theorem Held_Len {W w : World} {b : Nat} {xs : List Int} (h : Held W b xs w) : Calls Try.prog 18 #[.pointer (some ⟨b, 0, none⟩)] w fun e w' => e = .returned (.int .i64 xs.length) ∧ Held W b xs w' := by
  obtain ⟨sv, h1, h2, h3, h4⟩ := h
  refine (LenI_any b sv _ w h2).mono ?_
  rintro e w' ⟨rfl, hm⟩
  exact ⟨by simp, sv, h1.nil_then hm, h2.mod hm (by simp), h3, h4⟩
theorem Held_none {W w : World} {b : Nat} (h : Held W b [] w) (d : Int) : Calls Try.prog 16 #[.pointer (some ⟨b, 0, none⟩), .int .u64 d] w fun e w' => e = .returned (.tuple #[.int .i64 0, .bool false]) ∧ Held W b [] w' := by
  obtain ⟨sv, h1, h2, h3, h4⟩ := h
  refine (TakeI_none d b sv w h2).mono ?_
  rintro e w' ⟨rfl, hm⟩
  exact ⟨rfl, sv, h1.nil_then hm, h2.mod hm (by simp), h3, h4⟩

/-- A pool of numbers, and a list of marks beside it. -/
def Marked (W : World) (b : Nat) (xs : List Int) (sb : Nat) (cs : Array Value) (w : World) : Prop :=
  ∃ sv, Mod [] W w ∧ PoolAt 57 3 w b sv (xs.map (.int .i64)) ∧ W.heap.size ≤ b ∧ (∀ x, sv.ownBlock = some x → W.heap.size ≤ x ∧ x ≠ sb) ∧ w.heap[sb]? = some (.cells cs 4 (0, 0)) ∧ W.heap.size ≤ sb ∧ b ≠ sb
theorem Marked.held {W w : World} {b sb : Nat} {xs : List Int} {cs : Array Value} (h : Marked W b xs sb cs w) : Held W b xs w := by
  obtain ⟨sv, h1, h2, h3, h4, _⟩ := h
  exact ⟨sv, h1, h2, h3, fun x hx => (h4 x hx).1⟩
theorem Marked.blk {W w : World} {b sb : Nat} {xs : List Int} {cs : Array Value} (h : Marked W b xs sb cs w) : w.heap[sb]? = some (.cells cs 4 (0, 0)) := by
  obtain ⟨sv, h1, h2, h3, h4, h5, _⟩ := h
  exact h5
theorem Held.mark {W w : World} {b : Nat} {xs : List Int} (h : Held W b xs w) (cs : Array Value) : Marked W b xs w.heap.size cs (w.alloc (.cells cs 4 (0, 0))) := by
  obtain ⟨sv, h1, h2, h3, h4⟩ := h
  have hb := lt_of h2.blk
  have hs := h1.size
  refine ⟨sv, h1.alloc _, h2.mod ((Mod.refl [] w).alloc _) (by simp), h3, fun x hx => ⟨h4 x hx, ?_⟩, at_alloc _ _, hs, by omega⟩
  have := (h2.row.lt x hx).2
  omega
theorem Marked.set {W w : World} {b sb : Nat} {xs : List Int} {cs : Array Value} (h : Marked W b xs sb cs w) (o : Nat) (v : Value) : Marked W b xs sb (cs.setIfInBounds o v) (w.setCell ⟨sb, o, none⟩ v) := by
  obtain ⟨sv, h1, h2, h3, h4, h5, h6, h7⟩ := h
  exact ⟨sv, h1.setCell (.inr h6) v, h2.mod ((Mod.refl [sb] w).setCell (p := ⟨sb, o, none⟩) (.inl (by simp)) v) (fun x hx => by
    rcases List.mem_cons.1 hx with rfl | hx
    · simpa using h7
    · simpa using (h4 x (by simpa using hx)).2), h3, h4, at_setCell h5, h6, h7⟩
theorem Marked_Take {W w : World} {b sb : Nat} {xs : List Int} {cs : Array Value} (h : Marked W b xs sb cs w) (d : Int) (hd : 0 ≤ d) (hd2 : d ≤ 18446744073709551615) (hn : 0 < xs.length) :
    Calls Try.prog 16 #[.pointer (some ⟨b, 0, none⟩), .int .u64 d] w fun e w' => ∃ i, ∃ hi : i < xs.length, e = .returned (.tuple #[.int .i64 xs[i], .bool true]) ∧ Marked W b (takeAt xs i hn) sb cs w' := by
  obtain ⟨sv, h1, h2, h3, h4, h5, h6, h7⟩ := h
  have hpos : (0 : Int) < xs.length := by omega
  have e1 := Int.emod_nonneg d (show (xs.length : Int) ≠ 0 by omega)
  have e2 := Int.emod_lt_of_pos d hpos
  have hi : (d % xs.length).toNat < xs.length := by omega
  refine (TakeI_some d hd hd2 b sv xs w h2 hn (d % xs.length).toNat (by omega) hi).mono ?_
  rintro e w' ⟨sv', rfl, hm, hp, hs⟩
  have hS : sb ∉ b :: sv.ownBlock.toList := by
    intro hx
    rcases List.mem_cons.1 hx with e | hx
    · exact h7 e.symm
    · exact (h4 sb (by simpa using hx)).2 rfl
  refine ⟨_, hi, rfl, sv', h1.then hm (fun x hx => .inr ?_), hp, h3, fun x hx => ?_, hm.at h5 hS, h6, h7⟩
  · rcases List.mem_cons.1 hx with rfl | hx
    · exact h3
    · exact (h4 x (by simpa using hx)).1
  · rcases hs x hx with h | h
    · exact h4 x h
    · have := lt_of h5
      have := h1.size
      exact ⟨by omega, by omega⟩

/-- What the marks say: exactly the numbers below k that are no more in the pool are seen. -/
def SeenAs (k : Nat) (l : List Int) (cs : Array Value) : Prop := cs.size = k ∧ ∀ j, j < k → cs[j]? = some (.bool (decide ((j : Int) ∉ l)))
/-- What remains in the pool. -/
def Left (k i : Nat) (l : List Int) : Prop := l.length + i = k ∧ l.Nodup ∧ ∀ x ∈ l, ∃ m : Nat, x = m ∧ m < k
theorem Left.step {k i : Nat} {l : List Int} (h : Left k i l) (hn : 0 < l.length) {j : Nat} (hj : j < l.length) : Left k (i + 1) (takeAt l j hn) := by
  have hp := takeAt_perm l j hn hj
  have hnd := hp.nodup_iff.1 h.2.1
  refine ⟨by have := h.1; rw [takeAt_length]; omega, (List.nodup_cons.1 hnd).2, fun x hx => h.2.2 x (hp.mem_iff.2 (List.mem_cons_of_mem _ hx))⟩
theorem SeenAs.step {k i : Nat} {l : List Int} {cs : Array Value} (h : SeenAs k l cs) (hl : Left k i l) (hn : 0 < l.length) {j m : Nat} (hj : j < l.length) (hm : l[j] = m) (hk : m < k) : SeenAs k (takeAt l j hn) (cs.setIfInBounds m (.bool true)) := by
  have hp := takeAt_perm l j hn hj
  rw [hm] at hp
  have hnd := List.nodup_cons.1 (hp.nodup_iff.1 hl.2.1)
  refine ⟨by simpa using h.1, fun q hq => ?_⟩
  by_cases e : q = m
  · subst e
    rw [Array.getElem?_setIfInBounds_self_of_lt (by rw [h.1]; exact hk)]
    simp [hnd.1]
  · rw [Array.getElem?_setIfInBounds_ne (fun e' => e e'.symm), h.2 q hq]
    have : ((q : Int) ∈ l) ↔ ((q : Int) ∈ takeAt l j hn) := by
      rw [hp.mem_iff, List.mem_cons]
      constructor
      · rintro (h | h)
        · omega
        · exact h
      · exact .inr
    simp [this]
def upTo (k : Nat) : List Int := (List.range k).map Int.ofNat
theorem upTo_length (k : Nat) : (upTo k).length = k := by simp [upTo]
theorem upTo_succ (k : Nat) : upTo (k + 1) = upTo k ++ [(k : Int)] := by simp [upTo, List.range_succ]
theorem upTo_mem (k : Nat) (x : Int) : x ∈ upTo k ↔ ∃ m : Nat, x = m ∧ m < k := by
  simp only [upTo, List.mem_map, List.mem_range]
  constructor
  · rintro ⟨m, h, rfl⟩; exact ⟨m, rfl, h⟩
  · rintro ⟨m, rfl, h⟩; exact ⟨m, h, rfl⟩
theorem Left.upTo (k : Nat) : Left k 0 (upTo k) :=
  ⟨by rw [upTo_length]; omega, by
    unfold Proofs.Ytnlfcfobdefflaa.upTo List.Nodup
    rw [List.pairwise_map]
    exact List.Pairwise.imp (fun h e => h (Int.ofNat.inj e)) List.nodup_range, fun x hx => (upTo_mem k x).1 hx⟩
theorem SeenAs.fresh (k : Nat) : SeenAs k (upTo k) (madeCells #[.bool false] k) := by
  refine ⟨size_madeCells _ _, fun j hj => ?_⟩
  have h1 : (madeCells #[.bool false] k)[j]? = some (.bool false) := by
    rw [← Array.getElem?_toList, toList_madeCells_one, List.getElem?_replicate, if_pos hj]
  rw [h1]
  have : (j : Int) ∈ upTo k := (upTo_mem k _).2 ⟨j, rfl, hj⟩
  simp [this]
end Go.Proofs.Ytnlfcfobdefflaa
