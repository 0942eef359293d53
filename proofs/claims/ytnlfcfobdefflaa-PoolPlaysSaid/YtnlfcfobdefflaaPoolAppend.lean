/- append of a slice that may be nil. -/
import Derived.Test.YtnlfcfobdefflaaPoolRTake
namespace Go.Proofs.Ytnlfcfobdefflaa
open Go Go.RowKit Go.Stg
section
variable {P : Program}
theorem run_append_in (w : World) (t ty e : TypeId) (i : TypeInfo) (z : Value) (bytes : Nat) (ht : P.underlying t = some (.slice e)) (hi : P.info? e = some i) (hz : i.zero = some z)
    (hsize : i.size = 1) (hby : i.bytes = bytes) (hzs : z.cells.size = 1)
    (v : Value) (n : Nat) (xs : List Value) (hown : w.ownsRow 0 e 1 v n xs)
    (sv : Value) (news : List Value) (hin : SliceIn w sv news) (h1 : ∀ u ∈ news, u.oneCell' = true)
    (h63 : n + news.length ≤ maxLen) (hbytes : (n + news.length) * bytes ≤ 140737488355328) :
    ∃ v' w', (Builtin.append_ #[t, t] ty #[v, sv]).run P w = .ok v' w' ∧ w'.ownsRow 0 e 1 v' (n + news.length) (xs ++ news) ∧ w.grownBy w' v.ownBlock ∧ ∀ x, v'.ownBlock = some x → v.ownBlock = some x ∨ w.heap.size ≤ x := by
  rcases hin with ⟨rfl, rfl⟩ | ⟨sb, so, cap, rfl, _, hc⟩
  · exact ⟨v, w, run_append_owned_none w 0 t ty e i 1 ht hi v n xs hown, by simpa using hown, ⟨rfl, rfl, rfl, Nat.le_refl _, fun _ _ _ => rfl⟩, fun x hx => .inl hx⟩
  · exact run_append_row (P := P) w t ty e i z 1 bytes ht hi hz hsize hby hzs (by decide) v n xs hown ⟨sb, so, none⟩ news.length cap news (by simp) (fun j u hj => by rw [add_at]; exact hc j u hj) h1 h63 hbytes
theorem wpList_append_in (w : World) {ops : Array Oper} {rest : List Oper} {o : Oper} {a : Act} {Q : Exit → Act → World → Prop} (hgd : o.guard = none) (s x : Operand) (t : TypeId)
    (ho : o.op = .call { callee := .builtin .append, args := #[s, x], argTypes := #[t, t] })
    (e : TypeId) (i : TypeInfo) (z : Value) (bytes : Nat) (ht : P.underlying t = some (.slice e)) (hi : P.info? e = some i) (hz : i.zero = some z)
    (hsize : i.size = 1) (hby : i.bytes = bytes) (hzs : z.cells.size = 1)
    (v : Value) (n : Nat) (xs : List Value) (hs : a.eval s = v) (hown : w.ownsRow 0 e 1 v n xs)
    (sv : Value) (news : List Value) (hx : a.eval x = sv) (hin : SliceIn w sv news) (h1 : ∀ u ∈ news, u.oneCell' = true)
    (h63 : n + news.length ≤ maxLen) (hbytes : (n + news.length) * bytes ≤ 140737488355328)
    (h : ∀ v' w', w'.ownsRow 0 e 1 v' (n + news.length) (xs ++ news) → w.grownBy w' v.ownBlock → (∀ x, v'.ownBlock = some x → v.ownBlock = some x ∨ w.heap.size ≤ x) → wpList P ops Q rest (a.put o.dst v') w') : wpList P ops Q (o :: rest) a w := by
  refine wpList_plain hgd fun K hK => ?_
  obtain ⟨v', w', hr, h2, h3, h4⟩ := run_append_in (P := P) w t o.type e i z bytes ht hi hz hsize hby hzs v n xs hown sv news hin h1 h63 hbytes
  unfold Oper.wp execOp
  simp only [ho, resolve, invoke, builtin, Sem.run_bind, Sem.run_pure, Result.andThen_ok, List.map_toArray, List.map_cons, List.map_nil, hs, hx, hr]
  exact hK _ _ (h v' w' h2 h3 h4)
end
theorem SliceIn.mod {w w' : World} {sv : Value} {cs : List Value} (h : SliceIn w sv cs) (hm : Mod [] w w') : SliceIn w' sv cs := by
  rcases h with h | ⟨sb, so, cap, rfl, h2, h3⟩
  · exact .inl h
  · exact .inr ⟨sb, so, cap, rfl, hm.lt h2, fun j u hj => (cell_mod hm h2 (by simp)).trans (h3 j u hj)⟩
theorem IntsAt.sliceIn {w : World} {v : Value} {xs : List Int} (h : IntsAt w v xs) : SliceIn w v (xs.map (.int .i64)) := by
  rcases h with ⟨rfl, rfl⟩ | ⟨sb, so, cap, rfl, h2, _, h4⟩
  · exact .inl ⟨rfl, rfl⟩
  · refine .inr ⟨sb, so, cap, by simp, h2, fun j u hj => ?_⟩
    rw [List.getElem?_map] at hj
    obtain ⟨s, hs, rfl⟩ := Option.map_eq_some_iff.1 hj
    obtain ⟨hj, e⟩ := List.getElem?_eq_some_iff.1 hs
    rw [← e]
    exact h4 j hj
theorem row_ints {w : World} {e : TypeId} {v : Value} {xs : List Int} {base n : Nat} (h : w.ownsRow base e 1 v n (xs.map (.int .i64))) (hn : n = xs.length) (hl : xs.length ≤ 1000000) : IntsAt w v xs := by
  subst hn
  rcases h.2 with ⟨rfl, h2⟩ | ⟨g, cap, cur, rfl, h2, h3, h4, h5, h6, h7⟩
  · exact .inl ⟨rfl, List.eq_nil_of_length_eq_zero h2⟩
  · refine .inr ⟨g, 0, cap, rfl, lt_of h3, hl, fun i hi => ?_⟩
    have hcc := h.cellAt i (by omega)
    rw [List.getElem?_map, List.getElem?_eq_getElem hi] at hcc
    rw [Nat.zero_add]
    exact hcc
end Go.Proofs.Ytnlfcfobdefflaa
