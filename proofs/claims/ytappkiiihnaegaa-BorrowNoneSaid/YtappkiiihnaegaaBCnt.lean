/- Borrows: the number of borrows of each object, as it changes. -/
import Derived.Test.YtappkiiihnaegaaBLed
import Derived.Test.YtappkiiihnaegaaBPure
import Derived.Test.YtappkiiihnaegaaStageX
namespace Go.Proofs.Ytappkiiihnaegaa
open Go Go.RowKit Go.Stg

section
variable {P : Program} {ops : Array Oper} {I : World → Prop} {Out : Prop} {Q : Act → World → Prop}
/-- A map is written in a drawn region. -/
theorem stage_put (C' : World → Prop) {o : Oper} {rest : List Oper} {C : World → Prop} {a : Act} {t : TypeId} {m x y : Operand} {mv kv vv : Value} (hop : o.op = .mapUpdate t m x y)
    (hw : Region.wanted o (yielded ops a.tmps) = true) (hm : a.eval m = mv) (hx : a.eval x = kv) (hy : a.eval y = vv)
    (hrun : ∀ w, C w → ∃ w', (Instr.mapUpdate t mv kv vv).run P w = .ok () w' ∧ C' w') (hI : ∀ w, C' w → I w)
    (h : wpStage P ops I Out Q rest C' (a.put o.dst undef)) : wpStage P ops I Out Q (o :: rest) C a := by
  refine stage_write C' hw (by simp [eff, hop]) (fun w hc => ?_) hI h
  obtain ⟨w', hr, hc'⟩ := hrun w hc
  exact ⟨w', by simp [execOp, hop, hm, hx, hy, hr], hc'⟩
/-- A key is deleted in a drawn region. -/
theorem stage_del (C' : World → Prop) {o : Oper} {rest : List Oper} {C : World → Prop} {a : Act} {ts : Array TypeId} {d x : Operand} {dv kv : Value} (hop : o.op = .call { callee := .builtin .delete, args := #[d, x], argTypes := ts })
    (hw : Region.wanted o (yielded ops a.tmps) = true) (hd : a.eval d = dv) (hx : a.eval x = kv)
    (hrun : ∀ w, C w → ∃ w', (Builtin.delete_ ts o.type #[dv, kv]).run P w = .ok (.tuple #[]) w' ∧ C' w') (hI : ∀ w, C' w → I w)
    (h : wpStage P ops I Out Q rest C' (a.put o.dst (.tuple #[]))) : wpStage P ops I Out Q (o :: rest) C a := by
  refine stage_any (fun v => v = .tuple #[]) (fun _ w => C' w) hw (by simp [eff, hop]) ⟨_, rfl⟩ (fun w hc => ?_) (fun _ => hI) (fun v hv => by subst hv; exact h)
  obtain ⟨w', hr, hc'⟩ := hrun w hc
  exact ⟨_, w', by simp [execOp, hop, resolve, invoke, builtin, hd, hx, hr, Result.andThen], rfl, hc'⟩
/-- A map is written in a region that does not draw. -/
theorem wpList_upd {w : World} {rest : List Oper} {o : Oper} {a : Act} {Q : Exit → Act → World → Prop} (hgd : o.guard = none) (t : TypeId) (m x y : Operand) (ho : o.op = .mapUpdate t m x y) (W' : World)
    (hrun : (Instr.mapUpdate t (a.eval m) (a.eval x) (a.eval y)).run P w = .ok () W') (h : wpList P ops Q rest (a.put o.dst undef) W') : wpList P ops Q (o :: rest) a w := by
  refine wpList_plain hgd fun K hK => ?_
  unfold Oper.wp
  have hr : (execOp a.eval o).run P w = .ok .skip W' := by simp [execOp, ho, hrun]
  rw [hr]
  exact hK _ _ h
end
/-- Entries that count the borrows of each object. -/
def CntAt (es : Array MapEntry) (L : List Bor) : Prop := IKeys es.toList ∧ ∀ o, mget o es.toList = if ofO L o = [] then none else some (.int .i64 ((ofO L o).length : Nat))
theorem CntAt.is {w : World} {c ck : Nat} {es : Array MapEntry} {L : List Bor} (h : CntAt es L) (hb : w.heap[c]? = some (.map es ck)) : CntIs w c L := ⟨es, ck, hb, h.1, h.2⟩
theorem CntIs.at {w : World} {c : Nat} {L : List Bor} (h : CntIs w c L) : ∃ es ck, w.heap[c]? = some (.map es ck) ∧ CntAt es L := let ⟨es, ck, h1, h2, h3⟩ := h; ⟨es, ck, h1, h2, h3⟩
theorem nil_len {α : Type} (l : List α) : l = [] ↔ l.length = 0 := by cases l <;> simp
theorem CntAt.same {es : Array MapEntry} {L M : List Bor} (h : CntAt es L) (he : ∀ o, (ofO M o).length = (ofO L o).length) : CntAt es M := by
  refine ⟨h.1, fun o => ?_⟩
  rw [h.2 o, he o]
  simp only [nil_len, he o]
theorem CntIs.same {w : World} {c : Nat} {L M : List Bor} (h : CntIs w c L) (he : ∀ o, (ofO M o).length = (ofO L o).length) : CntIs w c M := by
  obtain ⟨es, ck, h1, h2⟩ := h.at
  exact (h2.same he).is h1
theorem CntAt.nil : CntAt #[] [] := ⟨trivial, fun _ => rfl⟩
theorem CntAt.get {es : Array MapEntry} {L : List Bor} (h : CntAt es L) (o : Int) : (mget o es.toList).getD (.int .i64 0) = .int .i64 ((ofO L o).length : Nat) := by
  rw [h.2 o]
  split
  · rename_i h; rw [h]; rfl
  · rfl
/-- One more of an object. -/
theorem CntAt.more {es : Array MapEntry} {L M : List Bor} (h : CntAt es L) {o : Int} (he : ∀ q, (ofO M q).length = (if o = q then 1 else 0) + (ofO L q).length) (ck : Nat) {n : Int} (hn : n = (ofO L o).length + 1) : CntAt (mput o (.int .i64 n) ck es).1 M := by
  obtain ⟨h1, h2⟩ := mput_spec o (.int .i64 n) ck es h.1
  refine ⟨h1, fun q => ?_⟩
  rw [h2 q]
  have hq := he q
  by_cases hqo : q = o
  · subst hqo
    rw [if_pos rfl] at hq ⊢
    rw [if_neg (by rw [nil_len]; omega)]
    rw [show n = ((ofO M q).length : Int) from by omega]
  · rw [if_neg (fun e => hqo e.symm)] at hq
    rw [if_neg hqo, h.2 q]
    simp only [nil_len, hq, Nat.zero_add]
/-- One less of an object, of which others stay. -/
theorem CntAt.less {es : Array MapEntry} {L M : List Bor} (h : CntAt es L) {o : Int} (he : ∀ q, (ofO L q).length = (if o = q then 1 else 0) + (ofO M q).length) (ck : Nat) {n : Int} (hn : n = (ofO L o).length - 1) (h0 : n ≠ 0) : CntAt (mput o (.int .i64 n) ck es).1 M := by
  obtain ⟨h1, h2⟩ := mput_spec o (.int .i64 n) ck es h.1
  refine ⟨h1, fun q => ?_⟩
  rw [h2 q]
  have hq := he q
  by_cases hqo : q = o
  · subst hqo
    rw [if_pos rfl] at hq ⊢
    rw [if_neg (by rw [nil_len]; omega)]
    rw [show n = ((ofO M q).length : Int) from by omega]
  · rw [if_neg (fun e => hqo e.symm)] at hq
    rw [if_neg hqo, h.2 q]
    simp only [nil_len, hq, Nat.zero_add]
/-- The last one of an object. -/
theorem CntAt.last {es : Array MapEntry} {L M : List Bor} (h : CntAt es L) {o : Int} (he : ∀ q, (ofO L q).length = (if o = q then 1 else 0) + (ofO M q).length) (ck : Nat) (v : Value) (hn : (ofO L o).length = 1) : CntAt (mdel o (mput o v ck es).1) M := by
  obtain ⟨h1, h2⟩ := mput_spec o v ck es h.1
  obtain ⟨k1, k2⟩ := mdel_spec o _ h1
  refine ⟨k1, fun q => ?_⟩
  rw [k2 q, h2 q]
  have hq := he q
  by_cases hqo : q = o
  · subst hqo
    rw [if_pos rfl] at hq ⊢
    rw [if_pos (by rw [nil_len]; omega)]
  · rw [if_neg (fun e => hqo e.symm)] at hq
    rw [if_neg hqo, if_neg hqo, h.2 q]
    simp only [nil_len, hq, Nat.zero_add]
/-- A ledger whose maps stand. -/
theorem LedAt.of {w : World} {b a c : Nat} {bs L : List Bor} (h1 : w.heap[b]? = some (.cells #[.map (some a), .map (some c)] 55 (0, 0))) (h2 : a ≠ b) (h3 : c ≠ b) (h4 : a ≠ c) (h5 : MapIs w a bs) (h6 : bs.Perm L) (h7 : CntIs w c L) : LedAt w b L [b, a, c] :=
  .inr ⟨a, c, bs, h1, h2, h3, h4, h5, h6, h7, rfl⟩
theorem MapIs.empty {w : World} {a : Nat} (h : w.heap[a]? = some (.map #[] 0)) : MapIs w a [] := ⟨#[], 0, h, ⟨rfl, rfl⟩, by simp, by simp⟩
theorem upd_any {w : World} {c ck : Nat} {es : Array MapEntry} {o n : Int} (hb : w.heap[c]? = some (.map es ck)) (h : IKeys es.toList) : ∃ w', (Instr.mapUpdate 53 (.map (some c)) (.int .i64 o) (.int .i64 n)).run Try.prog w = .ok () w' ∧ w'.heap[c]? = some (.map (mput o (.int .i64 n) ck es).1 (mput o (.int .i64 n) ck es).2) ∧ Mod [c] w w' ∧ w'.heap.size = w.heap.size :=
  ⟨_, run_update_int Try.underlying53 Try.underlying3 hb h o (.int .i64 n), at_setMap hb, (Mod.refl _ w).setMap (.inl (by simp)) _, by simp⟩
theorem upd_more {w : World} {c : Nat} {L M : List Bor} {o n : Int} (h : CntIs w c L) (he : ∀ q, (ofO M q).length = (if o = q then 1 else 0) + (ofO L q).length) (hn : n = (ofO L o).length + 1) :
    ∃ w', (Instr.mapUpdate 53 (.map (some c)) (.int .i64 o) (.int .i64 n)).run Try.prog w = .ok () w' ∧ CntIs w' c M ∧ Mod [c] w w' ∧ w'.heap.size = w.heap.size := by
  obtain ⟨es, ck, hb, h⟩ := h.at
  obtain ⟨w', h1, h2, h3, h4⟩ := upd_any (o := o) (n := n) hb h.1
  exact ⟨w', h1, (h.more he ck hn).is h2, h3, h4⟩
theorem look_cnt {w : World} {c : Nat} {L : List Bor} (h : CntIs w c L) (o : Int) : (Instr.lookup 53 (.map (some c)) (.int .i64 o) false).run Try.prog w = .ok (.int .i64 ((ofO L o).length : Nat)) w := by
  obtain ⟨es, ck, hb, h⟩ := h.at
  rw [run_lookup_int Try.underlying53 Try.underlying3 Try.zeroValue3 hb h.1, h.get]
end Go.Proofs.Ytappkiiihnaegaa
