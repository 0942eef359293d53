/- The pool of pairs: Put. -/
import Derived.Test.YtnlfcfobdefflaaPoolPair
namespace Go.Proofs.Ytnlfcfobdefflaa
open Go Go.RowKit Go.Stg

theorem exec_append {P : Program} {w w' : World} {o : Oper} {a : Act} {v u v' : Value} (s x : Operand) (t : TypeId) (ho : o.op = .call { callee := .builtin .append, args := #[s, x], argTypes := #[t, t] }) (hs : a.eval s = v) (hx : a.eval x = u)
    (hr : (Builtin.append_ #[t, t] o.type #[v, u]).run P w = .ok v' w') : (execOp a.eval o).run P w = .ok (.value v') w' := by
  unfold execOp
  simp only [ho, resolve, invoke, builtin, Sem.run_bind, Sem.run_pure, Result.andThen_ok, List.map_toArray, List.map_cons, List.map_nil, hs, hx, hr]
theorem PutP_any (x : Int) (b : Nat) (sv : Value) (l : List Int) (w : World) (h : PairAt w b sv l) (hlen : l.length < 1000000) :
    Calls Try.prog 12 #[.pointer (some ⟨b, 0, none⟩), .agg #[.int .i64 x, .int .i64 (-x)]] w (PairPost (.tuple #[]) b sv (l ++ [x]) w) := by
  obtain ⟨i0, hi, hz0, hz1, hz2⟩ := info_parts info_pair
  obtain ⟨hb, hrow, hne, hlen'⟩ := h
  have hlb := lt_of hb
  have h63 : l.length + 1 ≤ maxLen := sized63 (Nat.le_refl _) hlen'
  have hby : (l.length + 1) * 16 ≤ 140737488355328 := sized (Nat.le_refl _) hlen' (by omega)
  have hbA := at_alloc_old (o := .cells #[.int .i64 x, .int .i64 (-x)] 29 (0, 0)) hb
  have hbX := at_alloc w (.cells #[.int .i64 x, .int .i64 (-x)] 29 (0, 0))
  have hmA := (Mod.refl (b :: sv.ownBlock.toList) w).alloc (.cells #[.int .i64 x, .int .i64 (-x)] 29 (0, 0))
  have hrA := hrow.alloc (.cells #[.int .i64 x, .int .i64 (-x)] 29 (0, 0))
  go_enter Try.func12, Try.ntmps12
  go_wp2_with fail
  have hpA : w.heap.size < (w.alloc (.cells #[.int .i64 x, .int .i64 (-x)] 29 (0, 0))).heap.size := lt_of hbX
  have hso : ∀ g, sv.ownBlock = some g → g < w.heap.size := fun g hg => (hrow.lt g hg).2
  have hgx : ∀ k, w.heap.size ≤ k → k ∉ sv.ownBlock.toList := fun k hk hx => by have := hso k (by simpa using hx); omega
  have hwA : w.heap.size ≤ (w.alloc (.cells #[.int .i64 x, .int .i64 (-x)] 29 (0, 0))).heap.size := Nat.le_of_lt hpA
  clear hrow hb hso
  generalize w.alloc (.cells #[.int .i64 x, .int .i64 (-x)] 29 (0, 0)) = W at *
  have hbS : b ∉ sv.ownBlock.toList := by simpa using hne
  have hpS := hgx w.heap.size (Nat.le_refl _)
  generalize hp0 : w.heap.size = p at *
  generalize hS0 : sv.ownBlock.toList = S at *
  have k1 := GW.cells (S := S) hbA hbS
  have k2 := GW.cells (S := S) hbX hpS
  refine wp_region_stage (fun w' => ∃ x : GW S W, w' = x.1) (fun w' => Mod [] W w') (by kernel_rfl) (by kernel_rfl) (fun _ h => InGW.of (h.mono (by simp))) (Mod.refl _ _).drew ?_
  refine stage_quiet 6 (by kernel_rfl) ?_
  simp only [List.take_succ_cons, List.take_zero, List.drop_succ_cons, List.drop_zero]
  repeat (go_big_quiet_step (fail))
  refine wpQuiet_nil ?_
  refine stage_alloc (fun s => .slice (some ⟨s, 0, none⟩) 1 1) (.cells #[.int .i64 x, .int .i64 (-x)] 29 (0, 0)) (fun s w' => Mod [] W w' ∧ W.heap.size ≤ s ∧ w'.heap[s]? = some (.cells #[.int .i64 x, .int .i64 (-x)] 29 (0, 0))) (by intro s s' h; simpa using h) rfl rfl (fun w' hw => ?_) (fun w' hw => ⟨hw.alloc _, hw.size, at_alloc _ _⟩) (fun s w' h => InGW.of (h.1.mono (by simp))) (fun s => ?_)
  · kernel_rfl
  simp only [Act.put, List.setIfInBounds_toArray, List.set_cons_succ, List.set_cons_zero]
  refine stage_any (fun v => ∃ g cap, v = .slice (some ⟨g, 0, none⟩) (l.length + 1) cap) (fun v w' => Mod S W w' ∧ w'.ownsRow 0 29 2 v (l.length + 1) (pcells (l ++ [x])) ∧ ∀ y, v.ownBlock = some y → sv.ownBlock = some y ∨ W.heap.size ≤ y) rfl rfl ⟨_, 0, 0, rfl⟩ (fun w' hw => ?_) (fun v w' h => InGW.of h.1) (fun v hv => ?_)
  · obtain ⟨hw1, hw2, hw3⟩ := hw
    have hnews : ∀ j u, [Value.int .i64 x, Value.int .i64 (-x)][j]? = some u → w'.cell? ((⟨s, 0, none⟩ : Addr).add j) = some u := fun j u h => by
      rw [add_at, Nat.zero_add, cells_of hw3]
      simpa using h
    obtain ⟨v', w2, hr, h2, h3, h4⟩ := run_append_row (P := Try.prog) w' 63 63 29 i0 (.agg #[.int .i64 0, .int .i64 0]) 2 16 Try.underlying63 hi hz0 hz1 hz2 rfl (by decide) sv l.length (pcells l) (row_mod hrA hw1 (by simp)) ⟨s, 0, none⟩ 1 1 [.int .i64 x, .int .i64 (-x)] rfl hnews (by simp [Value.oneCell']) h63 hby
    obtain ⟨g', cap', rfl, _, _⟩ := row_pos h2 (by omega)
    refine ⟨_, w2, exec_append _ _ 63 rfl rfl rfl hr, ⟨g', cap', rfl⟩, (hw1.mono (by simp)).grown h3 (fun k hk => .inl (by rw [← hS0]; simp [hk])), by rw [pcells_append]; exact h2, fun y hy => (h4 y hy).imp id (fun h => Nat.le_trans hw1.size h)⟩
  simp only [Act.put, List.setIfInBounds_toArray, List.set_cons_succ, List.set_cons_zero]
  obtain ⟨g, cap, rfl⟩ := hv
  refine stage_quiet 2 (by kernel_rfl) ?_
  simp only [List.take_succ_cons, List.take_zero, List.drop_succ_cons, List.drop_zero]
  repeat (go_big_quiet_step (fail))
  refine wpQuiet_nil ?_
  refine stage_store (p := ⟨b, 0, none⟩) (u := .slice (some ⟨g, 0, none⟩) (l.length + 1) cap) (fun w' => w'.setCell ⟨b, 0, none⟩ (.slice (some ⟨g, 0, none⟩) (l.length + 1) cap)) rfl rfl (by kernel_rfl) rfl rfl rfl (fun w' hw => ?_) (fun w' hw => ?_)
  · have c1 := cells_of (hw.1.at hbA hbS)
    have f1 := frozen_of (hw.1.at hbA hbS)
    clear k1 k2
    go_simp
  · obtain ⟨hm, hr, hf⟩ := hw
    clear k1 k2
    go_wp2_with fail
    go_end0
    have hbW := lt_of hbA
    have hgb : g ≠ b := by
      rcases hf g rfl with h | h
      · intro e; exact hne (by rw [h, e])
      · omega
    have hr2 := row_mod hr ((Mod.refl [b] _).setCell (p := ⟨b, 0, none⟩) (.inl (by simp)) (.slice (some ⟨g, 0, none⟩) (l.length + 1) cap)) (fun k hk => by simp [Value.ownBlock] at hk; subst hk; simpa using hgb)
    have hmm : Mod (b :: S) w w' := hmA.then hm (fun y hy => .inl (by simp [hy]))
    refine ⟨_, rfl, by rw [hS0]; exact hmm.setCell (.inl (by simp)) _, ⟨at_setCell (o := 0) (hm.at hbA hbS), by simpa using hr2, by simpa [Value.ownBlock] using hgb, by simp; omega⟩, fun y hy => (hf y hy).imp id (fun h => by omega)⟩
end Go.Proofs.Ytnlfcfobdefflaa
