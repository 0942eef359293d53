/- The definition's Take; append of a list that may be nil. -/
import Derived.Test.YtcdmapllligjhaaGenT
namespace Go.Proofs.Ytcdmapllligjhaa
open Go Go.RowKit Go.Stg

/-- Behind a call that made a list. -/
def ListPost (v : Value → Value) (xs : List Int) (w : World) (e' : Ending) (w' : World) : Prop :=
  ∃ sv, e' = .returned (v sv) ∧ Mod [] w w' ∧ IntsAt w' sv xs ∧ ∀ x, sv.ownBlock = some x → w.heap.size ≤ x
theorem RTake_some (d : Int) (hd : 0 ≤ d) (hd2 : d ≤ 18446744073709551615) (sb so cap : Nat) (xs : List Int) (w : World) (h2 : sb < w.heap.size) (h3 : xs.length ≤ 1000000) (h4 : ∀ i (h : i < xs.length), w.cell? ⟨sb, so + i, none⟩ = some (.int .i64 xs[i]))
    (hn : 0 < xs.length) (i : Nat) (hi : d % xs.length = i) (hil : i < xs.length) :
    Calls Try.prog 63 #[.slice (some ⟨sb, so, none⟩) xs.length cap, .int .u64 d] w (ListPost (fun sv => .tuple #[.int .i64 xs[i], sv]) (takeAt xs i hn) w) := by
  obtain ⟨i0, hi0, hz0, hz1, hz2⟩ := info_parts info_int
  have hown : (w.alloc (.cells #[] 3 (0, 0))).ownsRow 0 3 1 (.slice (some ⟨w.heap.size, 0, none⟩) 0 0) 0 [] := World.ownsRow_made w #[] 0 (Nat.zero_le _) (Nat.zero_le _) rfl
  have hcA : ∀ j u, (xs.map (Value.int .i64))[j]? = some u → (w.alloc (.cells #[] 3 (0, 0))).cell? ((⟨sb, so, none⟩ : Addr).add j) = some u := fun j u h => by
    rw [List.getElem?_map] at h
    obtain ⟨s, hs, rfl⟩ := Option.map_eq_some_iff.1 h
    obtain ⟨hj, e⟩ := List.getElem?_eq_some_iff.1 hs
    rw [add_at, ← e]
    exact (World.cell?_of_block (a := ⟨sb, so + j, none⟩) (RowKit.Below.heap_alloc _ _ _ h2)).trans (h4 j hj)
  have h63 : 0 + xs.length ≤ maxLen := by unfold maxLen; omega
  have hby : (0 + xs.length) * 8 ≤ 140737488355328 := by omega
  have HC := Lib.hid hcA
  have c0 := h4 i hil
  have hHI := Lib.hid hi
  have hne0 : ((xs.length : Int) == 0) = false := by simp only [beq_eq_false_iff_ne]; omega
  clear hcA h4
  go_enter Try.func63, Try.ntmps63
  go_wp2_with (first | (at_builtin; refine wpList_append_row _ rfl _ _ 67 rfl 3 i0 (.int .i64 0) 1 8 Try.underlying67 hi0 hz0 hz1 hz2 rfl (by decide) (.slice (some ⟨w.heap.size, 0, none⟩) 0 0) 0 [] rfl hown ⟨sb, so, none⟩ xs.length cap (xs.map (Value.int .i64)) rfl (by simp) HC.out (by simp [Value.oneCell']) h63 hby ?_; intro v' w1 hown1 hgrow hfr; simp only [Nat.zero_add, List.nil_append] at hown1; obtain ⟨g, cap', rfl, _, hg1⟩ := row_pos hown1 hn; have c1 := hown1.cellAt i (by simpa using hil); have c2 := hown1.cellAt (xs.length - 1) (by simp; omega); have hf1 := fun j => hown1.frozenAt j; simp only [List.getElem?_map, List.getElem?_eq_getElem hil, List.getElem?_eq_getElem (show xs.length - 1 < xs.length by omega), Option.map_some] at c1 c2))
  have hn1 : ((xs.length : Int) - 1).toNat = xs.length - 1 := by omega
  have hlc : xs.length ≤ cap' := by
    rcases row_cases hown1 with ⟨h, _⟩ | ⟨g', cap'', h, _, _, h2, _⟩
    · simp at h
    · simp at h
      obtain ⟨rfl, rfl⟩ := h
      exact h2
  refine wp_region_pure (by kernel_rfl) (by kernel_rfl) ?_
  refine stage_quiet 8 (by kernel_rfl) ?_
  simp only [List.take_succ_cons, List.take_zero, List.drop_succ_cons, List.drop_zero]
  repeat (go_big_quiet_step (fail))
  refine wpQuiet_nil ?_
  refine stage_nil fun w2 hm2 => ?_
  go_wp2_with fail
  go_ret2
  have r2 := row_shrink (row_mod (hown1.stored i (.int .i64 xs[xs.length - 1])).1 hm2 (by simp)) (Nat.sub_le xs.length 1)
  have e : ((xs.map (Value.int .i64)).set i (.int .i64 xs[xs.length - 1])).take (xs.length - 1) = (takeAt xs i hn).map (Value.int .i64) := by
    unfold takeAt
    rw [List.dropLast_eq_take, List.length_set, List.map_take, List.map_set]
  rw [e] at r2
  have hgw : w.heap.size ≤ g := by
    rcases hfr g rfl with h | h
    · have hk' : some w.heap.size = some g := h
      have := Option.some.inj hk'; omega
    · simp at h; omega
  refine ⟨.slice (some ⟨g, 0, none⟩) (xs.length - 1) cap', rfl, ((((Mod.refl [] w).alloc _).grown hgrow (fun k hk => .inr ?_)).setCell (.inr hgw) _).nil_then hm2, .inr ⟨g, 0, cap', by rw [takeAt_length], (r2.lt g rfl).2, by rw [takeAt_length]; omega, fun j hj => ?_⟩, fun x hx => ?_⟩
  · have hk' : some w.heap.size = some k := hk
    have := Option.some.inj hk'; omega
  · have hc := r2.cellAt j (by rw [takeAt_length] at hj; omega)
    rw [List.getElem?_map, List.getElem?_eq_getElem hj] at hc
    rw [Nat.zero_add]
    exact hc
  · simp [Value.ownBlock] at hx; omega
section
variable {P : Program}
theorem run_append_in (w : World) (t ty e : TypeId) (i : TypeInfo) (z : Value) (bytes : Nat) (ht : P.underlying t = some (.slice e)) (hi : P.info? e = some i) (hz : i.zero = some z)
    (hsize : i.size = 1) (hby : i.bytes = bytes) (hzs : z.cells.size = 1)
    (v : Value) (n : Nat) (xs : List Value) (hown : w.ownsRow 0 e 1 v n xs)
    (sv : Value) (news : List Value) (hin : SliceIn w sv news) (h1 : ∀ u ∈ news, u.oneCell' = true)
    (h63 : n + news.length ≤ maxLen) (hbytes : (n + news.length) * bytes ≤ 140737488355328) :
    ∃ v' w', (Builtin.append_ #[t, t] ty #[v, sv]).run P w = .ok v' w' ∧ w'.ownsRow 0 e 1 v' (n + news.length) (xs ++ news) ∧ w.grownBy w' v.ownBlock ∧ ∀ x, v'.ownBlock = some x → v.ownBlock = some x ∨ w.heap.size ≤ x := by
  rcases hin with ⟨rfl, rfl⟩ | ⟨sb, so, cap, rfl, _, hc⟩
  · exact ⟨v, w, run_append_owned_none w 0 t ty e i 1 ht hi v n xs hown, by simpa using hown, ⟨rfl, rfl, rfl, Nat.le_refl _, fun _ _ _ => rfl⟩, fun x hx => .inl hx⟩
  · exact run_append_row (P := P) w t ty e i z 1 bytes ht hi hz hsize hby hzs (by decide) v n xs hown ⟨sb, so, none⟩ news.length cap news (by simp) (fun j u hj => by rw [add_at]; exact hc j u hj) h1 h63 hbytes
theorem wpList_append_in (w : World) {ops : Array Oper} {rest : List Oper} {o : Oper} {a : Act} {Q : Exit → Act → World → Prop} (hgd : o.guard = none) (s x : Operand) (t : TypeId)
    (ho : o.op = .call { callee := .builtin .append, args := #[s, x], argTypes := #[t, t] })
    (e : TypeId) (i : TypeInfo) (z : Value) (bytes : Nat) (ht : P.underlying t = some (.slice e)) (hi : P.info? e = some i) (hz : i.zero = some z)
    (hsize : i.size = 1) (hby : i.bytes = bytes) (hzs : z.cells.size = 1)
    (v : Value) (n : Nat) (xs : List Value) (hs : a.eval s = v) (hown : w.ownsRow 0 e 1 v n xs)
    (sv : Value) (news : List Value) (hx : a.eval x = sv) (hin : SliceIn w sv news) (h1 : ∀ u ∈ news, u.oneCell' = true)
    (h63 : n + news.length ≤ maxLen) (hbytes : (n + news.length) * bytes ≤ 140737488355328)
    (h : ∀ v' w', w'.ownsRow 0 e 1 v' (n + news.length) (xs ++ news) → w.grownBy w' v.ownBlock → (∀ x, v'.ownBlock = some x → v.ownBlock = some x ∨ w.heap.size ≤ x) → wpList P ops Q rest (a.put o.dst v') w') : wpList P ops Q (o :: rest) a w := by
  refine wpList_plain hgd fun K hK => ?_
  obtain ⟨v', w', hr, h2, h3, h4⟩ := run_append_in (P := P) w t o.type e i z bytes ht hi hz hsize hby hzs v n xs hown sv news hin h1 h63 hbytes
  unfold Oper.wp execOp
  simp only [ho, resolve, invoke, builtin, Sem.run_bind, Sem.run_pure, Result.andThen_ok, List.map_toArray, List.map_cons, List.map_nil, hs, hx, hr]
  exact hK _ _ (h v' w' h2 h3 h4)
end
theorem SliceIn.mod {w w' : World} {sv : Value} {cs : List Value} (h : SliceIn w sv cs) (hm : Mod [] w w') : SliceIn w' sv cs := by
  rcases h with h | ⟨sb, so, cap, rfl, h2, h3⟩
  · exact .inl h
  · exact .inr ⟨sb, so, cap, rfl, hm.lt h2, fun j u hj => (cell_mod hm h2 (by simp)).trans (h3 j u hj)⟩
theorem IntsAt.sliceIn {w : World} {v : Value} {xs : List Int} (h : IntsAt w v xs) : SliceIn w v (xs.map (.int .i64)) := by
  rcases h with ⟨rfl, rfl⟩ | ⟨sb, so, cap, rfl, h2, _, h4⟩
  · exact .inl ⟨rfl, rfl⟩
  · refine .inr ⟨sb, so, cap, by simp, h2, fun j u hj => ?_⟩
    rw [List.getElem?_map] at hj
    obtain ⟨s, hs, rfl⟩ := Option.map_eq_some_iff.1 hj
    obtain ⟨hj, e⟩ := List.getElem?_eq_some_iff.1 hs
    rw [← e]
    exact h4 j hj
theorem row_ints {w : World} {e : TypeId} {v : Value} {xs : List Int} {base n : Nat} (h : w.ownsRow base e 1 v n (xs.map (.int .i64))) (hn : n = xs.length) (hl : xs.length ≤ 1000000) : IntsAt w v xs := by
  subst hn
  rcases h.2 with ⟨rfl, h2⟩ | ⟨g, cap, cur, rfl, h2, h3, h4, h5, h6, h7⟩
  · exact .inl ⟨rfl, List.eq_nil_of_length_eq_zero h2⟩
  · refine .inr ⟨g, 0, cap, rfl, lt_of h3, hl, fun i hi => ?_⟩
    have hcc := h.cellAt i (by omega)
    rw [List.getElem?_map, List.getElem?_eq_getElem hi] at hcc
    rw [Nat.zero_add]
    exact hcc
end Go.Proofs.Ytcdmapllligjhaa
