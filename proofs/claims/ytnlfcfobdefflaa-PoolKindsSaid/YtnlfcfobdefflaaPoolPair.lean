/- The pool of pairs: what each of its functions computes. -/
import Derived.Test.YtnlfcfobdefflaaPoolOnce
namespace Go.Proofs.Ytnlfcfobdefflaa
open Go Go.RowKit Go.Stg

/-- Pairs (i, -i) in a row. -/
def pcells : List Int → List Value
  | [] => []
  | i :: l => .int .i64 i :: .int .i64 (-i) :: pcells l
theorem pcells_length : ∀ l : List Int, (pcells l).length = l.length * 2
  | [] => rfl
  | s :: l => by simp [pcells, pcells_length l]; omega
theorem pcells_append : ∀ l m : List Int, pcells (l ++ m) = pcells l ++ pcells m
  | [], _ => rfl
  | s :: l, m => by simp [pcells, pcells_append l m]
theorem pcells_at : ∀ (l : List Int) (i : Nat) (h : i < l.length), (pcells l)[i * 2]? = some (.int .i64 l[i]) ∧ (pcells l)[i * 2 + 1]? = some (.int .i64 (-l[i]))
  | s :: l, 0, _ => by simp [pcells]
  | s :: l, i + 1, h => by
    have := pcells_at l i (by simpa using h)
    rw [show (i + 1) * 2 = i * 2 + 1 + 1 from by omega]
    simpa [pcells, Nat.add_right_comm] using this
theorem pcells_set : ∀ (l : List Int) (i : Nat) (v : Int), i < l.length → ((pcells l).set (i * 2) (.int .i64 v)).set (i * 2 + 1) (.int .i64 (-v)) = pcells (l.set i v)
  | s :: l, 0, v, _ => by simp [pcells]
  | s :: l, i + 1, v, h => by
    have := pcells_set l i v (by simpa using h)
    rw [show (i + 1) * 2 = i * 2 + 1 + 1 from by omega]
    simpa [pcells, Nat.add_right_comm] using this
theorem pcells_take : ∀ (l : List Int) (m : Nat), (pcells l).take (m * 2) = pcells (l.take m)
  | [], m => by simp [pcells]
  | s :: l, 0 => by simp [pcells]
  | s :: l, m + 1 => by
    rw [show (m + 1) * 2 = m * 2 + 1 + 1 from by omega]
    simp [pcells, pcells_take l m]

structure PairAt (w : World) (b : Nat) (sv : Value) (l : List Int) : Prop where
  blk : w.heap[b]? = some (.cells #[sv] 66 (0, 0))
  row : w.ownsRow 0 29 2 sv l.length (pcells l)
  ne : sv.ownBlock ≠ some b
  len : l.length ≤ 1000000
theorem PairAt.mod {S : List Nat} {w w' : World} {b : Nat} {sv : Value} {l : List Int} (h : PairAt w b sv l) (hm : Mod S w w') (hS : ∀ x, x ∈ b :: sv.ownBlock.toList → x ∉ S) : PairAt w' b sv l :=
  ⟨hm.at h.blk (hS b (by simp)), row_mod h.row hm (fun g hg => hS g (by simp [hg])), h.ne, h.len⟩
def PairPost (v : Value) (b : Nat) (sv : Value) (l : List Int) (w : World) (e' : Ending) (w' : World) : Prop :=
  ∃ sv', e' = .returned v ∧ Mod (b :: sv.ownBlock.toList) w w' ∧ PairAt w' b sv' l ∧ ∀ x, sv'.ownBlock = some x → sv.ownBlock = some x ∨ w.heap.size ≤ x

theorem info_pair : (Try.prog.info? 29).map (fun i => (i.zero, i.size, i.bytes)) = some (some (.agg #[.int .i64 0, .int .i64 0]), 2, 16) := by kernel_rfl
theorem LenP_any (b : Nat) (sv : Value) (l : List Int) (w : World) (h : PairAt w b sv l) : Calls Try.prog 19 #[.pointer (some ⟨b, 0, none⟩)] w fun e w' => e = .returned (.int .i64 l.length) ∧ Mod [] w w' := by
  have hcb := cells_of h.blk
  have hln := fun ty w => row_len (ty := ty) Try.underlying63 h.row w
  go_enter Try.func19, Try.ntmps19
  go_wp2
  go_ret
  exact ⟨rfl, Mod.refl _ _⟩
theorem CloneP_nil (w : World) : Calls Try.prog 25 #[.slice none 0 0] w fun e w' => e = .returned (.slice none 0 0) ∧ Mod [] w w' := by
  have hnil := fun w => Lib.run_eql_slice_nil (P := Try.prog) w 63 29 none 0 0 0 0 Try.underlying63
  simp only [Option.isNone_none] at hnil
  go_enter Try.func25, Try.ntmps25
  go_wp2
  go_ret
  exact ⟨rfl, Mod.refl _ _⟩
theorem NewP_nil (w : World) : Calls Try.prog 10 #[.slice none 0 0] w fun e w' => ∃ b, e = .returned (.pointer (some ⟨b, 0, none⟩)) ∧ Mod [] w w' ∧ PairAt w' b (.slice none 0 0) [] ∧ w.heap.size ≤ b := by
  have H := Lib.hid CloneP_nil
  go_enter Try.func10, Try.ntmps10
  go_wp2_with fail
  refine (H.out w).mono ?_
  rintro e w1 ⟨rfl, hm⟩
  go_wp2_with fail
  go_ret
  exact ⟨w1.heap.size, rfl, hm.alloc _, ⟨at_alloc _ _, World.ownsRow_nil _ _ _ _, by simp [Value.ownBlock], by simp⟩, hm.size⟩

section
variable {P : Program} {ops : Array Oper} {I : World → Prop} {Out : Prop} {Q : Act → World → Prop}
/-- An operation that lays a block: its value names the block. -/
theorem stage_alloc (v : Nat → Value) (ob : Obj) (C' : Nat → World → Prop) {o : Oper} {rest : List Oper} {C : World → Prop} {a : Act}
    (hv : ∀ s s', v s = v s' → s = s') (hw : Region.wanted o (yielded ops a.tmps) = true) (he : eff o = true)
    (hrun : ∀ w, C w → (execOp a.eval o).run P w = .ok (.value (v w.heap.size)) (w.alloc ob)) (hC : ∀ w, C w → C' w.heap.size (w.alloc ob)) (hI : ∀ s w, C' s w → I w)
    (h : ∀ s, wpStage P ops I Out Q rest (C' s) (a.put o.dst (v s))) : wpStage P ops I Out Q (o :: rest) C a := by
  unfold wpStage
  simp only [hw, he, if_true]
  refine ⟨fun u => ∃ s, u = v s, fun u w => ∃ s, u = v s ∧ C' s w, ⟨v 0, 0, rfl⟩, fun w hc => ?_, fun u w ⟨s, h1, h2⟩ => ⟨⟨s, h1⟩, .inr (hI s w h2)⟩, fun u ⟨s, hu⟩ => ?_⟩
  · unfold gives
    rw [hrun w hc]
    exact ⟨_, rfl, hC w hc⟩
  · subst hu
    have e : (fun w => ∃ s', v s = v s' ∧ C' s' w) = C' s := by
      funext w
      apply propext
      constructor
      · rintro ⟨s', h1, h2⟩; rw [hv _ _ h1]; exact h2
      · intro h; exact ⟨s, rfl, h⟩
    have h' := h s
    rw [← e] at h'
    exact h'
/-- An operation whose value the class describes. -/
theorem stage_any (V : Value → Prop) (C' : Value → World → Prop) {o : Oper} {rest : List Oper} {C : World → Prop} {a : Act}
    (hw : Region.wanted o (yielded ops a.tmps) = true) (he : eff o = true) (hV : ∃ v, V v)
    (hrun : ∀ w, C w → ∃ v w', (execOp a.eval o).run P w = .ok (.value v) w' ∧ V v ∧ C' v w') (hI : ∀ v w, C' v w → I w)
    (h : ∀ v, V v → wpStage P ops I Out Q rest (C' v) (a.put o.dst v)) : wpStage P ops I Out Q (o :: rest) C a := by
  unfold wpStage
  simp only [hw, he, if_true]
  refine ⟨V, fun u w => V u ∧ C' u w, hV, fun w hc => ?_, fun u w h1 => ⟨h1.1, .inr (hI u w h1.2)⟩, fun u hu => ?_⟩
  · obtain ⟨v, w', hr, h1, h2⟩ := hrun w hc
    unfold gives
    rw [hr]
    exact ⟨h1, h2⟩
  · have e : (fun w => V u ∧ C' u w) = C' u := by
      funext w
      simp [hu]
    have h' := h u hu
    rw [← e] at h'
    exact h'
end
theorem cells2 (w : World) (a b : Value) (T : TypeId) : ∀ j u, [a, b][j]? = some u → (w.alloc (.cells #[a, b] T)).cell? ((⟨w.heap.size, 0, none⟩ : Addr).add j) = some u := by
  intro j u h
  have hadd : (⟨w.heap.size, 0, none⟩ : Addr).add j = ⟨w.heap.size, j, none⟩ := by unfold Addr.add; split <;> simp_all
  rw [hadd, cells_of (at_alloc w _)]
  simpa using h
end Go.Proofs.Ytnlfcfobdefflaa
