/- Regions that draw: operations that lay blocks, and such of whose value the class tells. -/
import Derived.Test.YtappkiiihnaegaaBase
import Derived.WalkKit
import Derived.OwnWalkIn
import Derived.TacticsInMore
namespace Go.Proofs.Ytappkiiihnaegaa
open Go Go.RowKit Go.Stg

section
variable {P : Program} {ops : Array Oper} {I : World → Prop} {Out : Prop} {Q : Act → World → Prop}
/-- An operation that lays a block: its value names the block. -/
theorem stage_alloc (v : Nat → Value) (ob : Obj) (C' : Nat → World → Prop) {o : Oper} {rest : List Oper} {C : World → Prop} {a : Act}
    (hv : ∀ s s', v s = v s' → s = s') (hw : Region.wanted o (yielded ops a.tmps) = true) (he : eff o = true)
    (hrun : ∀ w, C w → (execOp a.eval o).run P w = .ok (.value (v w.heap.size)) (w.alloc ob)) (hC : ∀ w, C w → C' w.heap.size (w.alloc ob)) (hI : ∀ s w, C' s w → I w)
    (h : ∀ s, wpStage P ops I Out Q rest (C' s) (a.put o.dst (v s))) : wpStage P ops I Out Q (o :: rest) C a := by
  unfold wpStage
  simp only [hw, he, if_true]
  refine ⟨fun u => ∃ s, u = v s, fun u w => ∃ s, u = v s ∧ C' s w, ⟨v 0, 0, rfl⟩, fun w hc => ?_, fun u w ⟨s, h1, h2⟩ => ⟨⟨s, h1⟩, .inr (hI s w h2)⟩, fun u ⟨s, hu⟩ => ?_⟩
  · unfold gives
    rw [hrun w hc]
    exact ⟨_, rfl, hC w hc⟩
  · subst hu
    have e : (fun w => ∃ s', v s = v s' ∧ C' s' w) = C' s := by
      funext w
      apply propext
      constructor
      · rintro ⟨s', h1, h2⟩; rw [hv _ _ h1]; exact h2
      · intro h; exact ⟨s, rfl, h⟩
    have h' := h s
    rw [← e] at h'
    exact h'
/-- A writing operation that yields nothing. -/
theorem stage_write (C' : World → Prop) {o : Oper} {rest : List Oper} {C : World → Prop} {a : Act}
    (hw : Region.wanted o (yielded ops a.tmps) = true) (he : eff o = true)
    (hrun : ∀ w, C w → ∃ w', (execOp a.eval o).run P w = .ok .skip w' ∧ C' w') (hI : ∀ w, C' w → I w)
    (h : wpStage P ops I Out Q rest C' (a.put o.dst undef)) : wpStage P ops I Out Q (o :: rest) C a := by
  unfold wpStage
  simp only [hw, he, if_true]
  refine ⟨fun u => u = undef, fun u w => u = undef ∧ C' w, ⟨undef, rfl⟩, fun w hc => ?_, fun u w hu => ⟨hu.1, .inr (hI w hu.2)⟩, fun u hu => ?_⟩
  · obtain ⟨w', hr, h1⟩ := hrun w hc
    unfold gives
    rw [hr]
    exact ⟨rfl, h1⟩
  · subst hu
    simpa using h
/-- An operation whose value the class describes. -/
theorem stage_any (V : Value → Prop) (C' : Value → World → Prop) {o : Oper} {rest : List Oper} {C : World → Prop} {a : Act}
    (hw : Region.wanted o (yielded ops a.tmps) = true) (he : eff o = true) (hV : ∃ v, V v)
    (hrun : ∀ w, C w → ∃ v w', (execOp a.eval o).run P w = .ok (.value v) w' ∧ V v ∧ C' v w') (hI : ∀ v w, C' v w → I w)
    (h : ∀ v, V v → wpStage P ops I Out Q rest (C' v) (a.put o.dst v)) : wpStage P ops I Out Q (o :: rest) C a := by
  unfold wpStage
  simp only [hw, he, if_true]
  refine ⟨V, fun u w => V u ∧ C' u w, hV, fun w hc => ?_, fun u w h1 => ⟨h1.1, .inr (hI u w h1.2)⟩, fun u hu => ?_⟩
  · obtain ⟨v, w', hr, h1, h2⟩ := hrun w hc
    unfold gives
    rw [hr]
    exact ⟨h1, h2⟩
  · have e : (fun w => V u ∧ C' u w) = C' u := by
      funext w
      simp [hu]
    have h' := h u hu
    rw [← e] at h'
    exact h'
/-- A call of a Go function of whose value the class tells. -/
theorem stage_call_any (f : FuncId) (args : Array Value) (V : Value → Prop) (C' : Value → World → Prop) {o : Oper} {rest : List Oper} {C : World → Prop} {a : Act} {asz : Array Operand} {ts : Array TypeId}
    (hop : o.op = .call ⟨.value (.func f), asz, ts⟩) (hcall : ∀ (args : Array Value) w, (callFunc f args).run P w = .ok (.enter f args) w)
    (hw : Region.wanted o (yielded ops a.tmps) = true) (hargs : (asz.toList.map a.eval).toArray = args) (hV : ∃ v, V v)
    (hc : ∀ w, C w → Calls P f args w fun e w' => ∃ v, e = .returned v ∧ V v ∧ C' v w') (hI : ∀ v w, C' v w → I w)
    (h : ∀ v, V v → wpStage P ops I Out Q rest (C' v) (a.put o.dst v)) : wpStage P ops I Out Q (o :: rest) C a := by
  unfold wpStage
  have he : eff o = true := by simp [eff, hop]
  simp only [hw, he, if_true]
  refine ⟨V, fun u w => V u ∧ C' u w, hV, fun w hC => ?_, fun u w h1 => ⟨h1.1, .inr (hI u w h1.2)⟩, fun u hu => ?_⟩
  · unfold gives
    rw [run_go hop rfl hcall w, hargs]
    exact (hc w hC).mono fun e w' ⟨v, h1, h2, h3⟩ => by subst h1; exact ⟨h2, h3⟩
  · have e : (fun w => V u ∧ C' u w) = C' u := by
      funext w
      simp [hu]
    have h' := h u hu
    rw [← e] at h'
    exact h'
end
theorem wpListIn_append_row {F : Fence} {n' : Nat} {P : Program} (w : World) {ops : Array Oper} {rest : List Oper} {o : Oper} {a : Act} {Q : Exit → Act → World → Prop} (hgd : o.guard = none) (s x : Operand) (t : TypeId)
    (ho : o.op = Op.call { callee := Callee.builtin Builtin.append, args := #[s, x], argTypes := #[t, t] })
    (base : Nat) (e : TypeId) (i : TypeInfo) (z : Value) (size bytes : Nat) (ht : P.underlying t = some (.slice e)) (hi : P.info? e = some i) (hz : i.zero = some z)
    (hsize : i.size = size) (hby : i.bytes = bytes) (hzs : z.cells.size = size) (hsz : 0 < size)
    (v : Value) (n : Nat) (xs : List Value) (hs : a.eval s = v) (hown : w.ownsRow base e size v n xs)
    (ad : Addr) (m c : Nat) (news : List Value) (hx : a.eval x = .slice (some ad) m c) (hl : news.length = m * size) (hnews : ∀ j u, news[j]? = some u → w.cell? (ad.add j) = some u) (h1 : ∀ u ∈ news, u.oneCell' = true)
    (h63 : n + m ≤ maxLen) (hbytes : (n + m) * bytes ≤ 140737488355328) (hb : base ≤ w.heap.size)
    (h : ∀ v' w', w'.ownsRow base e size v' (n + m) (xs ++ news) → w.grownBy w' v.ownBlock → (∀ x, v'.ownBlock = some x → v.ownBlock = some x ∨ w.heap.size ≤ x) → wpListIn F n' P ops Q rest (a.put o.dst v') w') : wpListIn F n' P ops Q (o :: rest) a w := by
  refine wpListIn_plain hgd fun K hK' => ?_
  obtain ⟨v', w', hrun, h2, h3, h4⟩ := run_append_row (P := P) w t o.type e i z size bytes ht hi hz hsize hby hzs hsz v n xs (row_base hown (Nat.zero_le _)) ad m c news hl hnews h1 h63 hbytes
  have h2' : w'.ownsRow base e size v' (n + m) (xs ++ news) := row_all h2 fun g hg => by
    rcases h4 g hg with h | h
    · exact (hown.lt g h).1
    · omega
  unfold Oper.wpIn
  refine ⟨?_, ?_⟩
  · simp [Oper.about, ho, resolve, Target.leads, Sem.run_pure]
  · rw [Oper.semAt_plain F _ _ (by rw [ho]; intro c hc'; cases hc')]
    simp [execOp, ho, resolve, invoke, builtin, hs, hx, hrun, Result.andThen]
    exact hK' _ _ (h v' w' h2' h3 h4)

end Go.Proofs.Ytappkiiihnaegaa
