/- Borrows: the map whose keys are structs of two numbers. -/
import Derived.Test.YtappkiiihnaegaaProg
import Derived.Test.YtappkiiihnaegaaBor
import Derived.StillTailTactics
import Derived.WalkSpells
import Derived.Laws.StructEq
namespace Go.Proofs.Ytappkiiihnaegaa
open Go Go.RowKit Go.Stg

def kv (k : Int × Int) : Value := .agg #[.int .i64 k.1, .int .i64 k.2]
def bcell (b : Bor) : List Value := [.int .i64 b.1.1, .int .i64 b.1.2, .int .i64 b.2.1, .int .i64 b.2.2]
def bv (b : Bor) : Value := .agg #[.int .i64 b.1.1, .int .i64 b.1.2, .int .i64 b.2.1, .int .i64 b.2.2]
def b0 : Bor := ((0, 0), (0, 0))
def BKeys (es : List MapEntry) (bs : List Bor) : Prop := es.map (·.key) = bs.map (fun b => kv b.1) ∧ es.map (·.val) = bs.map bv
theorem BKeys.cons {e : MapEntry} {es : List MapEntry} {b : Bor} {bs : List Bor} : BKeys (e :: es) (b :: bs) ↔ e.key = kv b.1 ∧ e.val = bv b ∧ BKeys es bs := by
  simp only [BKeys, List.map_cons, List.cons.injEq]
  constructor
  · rintro ⟨⟨h1, h2⟩, h3, h4⟩; exact ⟨h1, h3, h2, h4⟩
  · rintro ⟨h1, h3, h2, h4⟩; exact ⟨⟨h1, h2⟩, h3, h4⟩
theorem BKeys.length {es : List MapEntry} {bs : List Bor} (h : BKeys es bs) : es.length = bs.length := by simpa using congrArg List.length h.1
theorem BKeys.get {es : List MapEntry} {bs : List Bor} (h : BKeys es bs) {i : Nat} {e : MapEntry} (he : es[i]? = some e) : ∃ b, bs[i]? = some b ∧ e.key = kv b.1 ∧ e.val = bv b := by
  have h1 := congrArg (·[i]?) h.1
  have h2 := congrArg (·[i]?) h.2
  simp only [List.getElem?_map, he, Option.map_some] at h1 h2
  cases hb : bs[i]? with
  | none => rw [hb] at h1; simp at h1
  | some b =>
    rw [hb] at h1 h2
    simp at h1 h2
    exact ⟨b, rfl, h1, h2⟩
theorem eq_key (p q : Int × Int) (w : World) : (Op.equalIn Op.maxDepth 58 (kv p) (kv q)).run Try.prog w = .ok (p.1 == q.1 && p.2 == q.2) w := by
  have u3 := Try.underlying3
  have a3 := Try.isAgg3
  have z3 := Try.sizeOf3
  unfold kv
  rw [show Op.maxDepth = 9999 + 1 from rfl, run_equalIn_struct w 9999 58 _ _ Try.underlying58 (by kernel_rfl)]
  go_simp
  by_cases h1 : p.1 = q.1 <;> by_cases h2 : p.2 = q.2 <;> simp [h1, h2]
theorem check_key (e : Bool) (p : Int × Int) (w : World) : (Instr.checkKey e 10000 58 (kv p)).run Try.prog w = .ok () w := by
  have z3 := Try.sizeOf3
  have a3 := Try.isAgg3
  have hc : ∀ v w, (Instr.checkKey e 9999 3 v).run Try.prog w = .ok () w := fun v w => by
    rw [show (9999 : Nat) = 9998 + 1 from rfl]
    unfold Instr.checkKey
    simp [run_underlying Try.underlying3]
  rw [show (10000 : Nat) = 9999 + 1 from rfl]
  unfold Instr.checkKey kv
  simp only [Sem.run_bind, run_underlying Try.underlying58, Result.andThen_ok]
  go_simp
theorem map_erase {α β : Type} (f : α → β) : ∀ (l : List α) (i : Nat), (l.eraseIdx i).map f = (l.map f).eraseIdx i
  | [], _ => rfl
  | _ :: _, 0 => rfl
  | a :: l, i + 1 => by simp [map_erase f l i]
/-- Where a key is found. -/
def askB (k : Int × Int) : List Bor → Nat → Option (Nat × Value)
  | [], _ => none
  | b :: r, i => if b.1 = k then some (i, bv b) else askB k r (i + 1)
theorem asking (k : Int × Int) (w : World) : ∀ (es : List MapEntry) (bs : List Bor) (i : Nat), BKeys es bs → (Instr.findAsking 58 (kv k) es i).run Try.prog w = .ok (askB k bs i) w
  | [], [], i, _ => by simp [Instr.findAsking, askB]
  | [], _ :: _, _, h => by simp [BKeys] at h
  | _ :: _, [], _, h => by simp [BKeys] at h
  | e :: es, b :: bs, i, h => by
    obtain ⟨h1, h2, h3⟩ := BKeys.cons.1 h
    have he := eq_key k b.1 w
    have ih := asking k w es bs (i + 1) h3
    unfold Instr.findAsking askB
    by_cases hk : b.1 = k
    · subst hk
      have hb : (b.1.1 == b.1.1 && b.1.2 == b.1.2) = true := by simp
      rw [hb] at he
      simp [h1, h2, Op.equal, he]
    · have hb : (k.1 == b.1.1 && k.2 == b.1.2) = false := by
        simp only [Bool.and_eq_false_iff, beq_eq_false_iff_ne]
        by_cases h : k.1 = b.1.1
        · right; exact fun h' => hk (Prod.ext h.symm h'.symm)
        · exact .inl h
      rw [hb] at he
      simp [h1, hk, Op.equal, he, ih]
theorem find_key (k : Int × Int) (w : World) (es : List MapEntry) (bs : List Bor) (h : BKeys es bs) : (Instr.findKey 58 (kv k) es).run Try.prog w = .ok (askB k bs 0) w := by
  have ha := asking k w es bs 0 h
  unfold Instr.findKey
  cases es with
  | nil =>
    cases bs with
    | nil => simp [run_underlying Try.underlying58, Instr.findNow, askB]
    | cons b bs => simp [BKeys] at h
  | cons e es => simp [run_underlying Try.underlying58, Instr.findNow, Instr.sameNow, ha]
theorem askB_none (k : Int × Int) : ∀ (bs : List Bor) (i : Nat), askB k bs i = none → getB bs k = none
  | [], _, _ => rfl
  | b :: r, i, h => by
    unfold askB at h
    split at h
    · cases h
    · rename_i hn
      unfold getB
      rw [List.find?_cons_of_neg (by simpa using hn)]
      exact askB_none k r (i + 1) h
theorem askB_some (k : Int × Int) : ∀ (bs : List Bor) (i j : Nat) (v : Value), askB k bs i = some (j, v) → ∃ d b, j = i + d ∧ bs[d]? = some b ∧ b.1 = k ∧ v = bv b ∧ getB bs k = some b
  | [], _, _, _, h => by simp [askB] at h
  | b :: r, i, j, v, h => by
    unfold askB at h
    split at h
    · rename_i hk
      simp only [Option.some.injEq, Prod.mk.injEq] at h
      obtain ⟨rfl, rfl⟩ := h
      exact ⟨0, b, rfl, rfl, hk, rfl, by unfold getB; rw [List.find?_cons_of_pos (by simpa using hk)]⟩
    · rename_i hn
      obtain ⟨d, b', h1, h2, h3, h4, h5⟩ := askB_some k r (i + 1) j v h
      exact ⟨d + 1, b', by omega, by simpa using h2, h3, h4, by unfold getB at h5 ⊢; rw [List.find?_cons_of_neg (by simpa using hn)]; exact h5⟩
/-- A map of borrows. -/
def MapIs (w : World) (mb : Nat) (bs : List Bor) : Prop := ∃ es c, w.heap[mb]? = some (.map es c) ∧ BKeys es.toList bs ∧ (es.toList.map (·.born)).Pairwise (· < ·) ∧ ∀ e ∈ es.toList, e.born < c
theorem MapIs.mod {S : List Nat} {w w' : World} {mb : Nat} {bs : List Bor} (h : MapIs w mb bs) (hm : Mod S w w') (hS : mb ∉ S) : MapIs w' mb bs := by
  obtain ⟨es, c, h1, h2⟩ := h
  exact ⟨es, c, hm.at h1 hS, h2⟩
theorem MapIs.lt {w : World} {mb : Nat} {bs : List Bor} (h : MapIs w mb bs) : mb < w.heap.size := by
  obtain ⟨es, c, h1, h2⟩ := h
  exact lt_of h1
def foundV (o : Option Bor) : Value := match o with
  | some b => .tuple #[bv b, .bool true]
  | none => .tuple #[bv b0, .bool false]
theorem look_b {w : World} {mb : Nat} {bs : List Bor} (h : MapIs w mb bs) (k : Int × Int) : (Instr.lookup 52 (.map (some mb)) (.agg #[.int .i64 k.1, .int .i64 k.2]) true).run Try.prog w = .ok (foundV (getB bs k)) w := by
  obtain ⟨es, c, hb, hk, _⟩ := h
  have hf := find_key k w es.toList bs hk
  have hc := check_key es.isEmpty k w
  unfold kv at hf hc
  unfold Instr.lookup
  cases ha : askB k bs 0 with
  | none =>
    rw [ha] at hf
    rw [askB_none k bs 0 ha]
    simp [run_underlying Try.underlying52, Stg.run_getObj_map hb, hf, hc, Try.zeroValue25, foundV]
    rfl
  | some p =>
    obtain ⟨j, v⟩ := p
    rw [ha] at hf
    obtain ⟨d, b, _, _, _, hv, hg⟩ := askB_some k bs 0 j v ha
    rw [hg]
    subst hv
    simp [run_underlying Try.underlying52, Stg.run_getObj_map hb, hf, hc, foundV]
theorem look_nil (w : World) (k : Int × Int) : (Instr.lookup 52 (.map none) (.agg #[.int .i64 k.1, .int .i64 k.2]) true).run Try.prog w = .ok (foundV none) w := by
  have hf := find_key k w [] [] ⟨rfl, rfl⟩
  have hc := check_key true k w
  unfold kv at hf hc
  unfold Instr.lookup
  simp [run_underlying Try.underlying52, hf, hc, Try.zeroValue25, foundV, askB]
  rfl
theorem set_perm {bs : List Bor} (hn : (bs.map (·.1)).Nodup) {d : Nat} {x b : Bor} (hd : bs[d]? = some x) (hg : getB bs b.1 = some x) : (bs.set d b).Perm (b :: without bs b.1) := by
  obtain ⟨hlt, he⟩ := List.getElem?_eq_some_iff.1 hd
  have h1 := getB_perm hn hg
  have h2 : bs.Perm (x :: bs.eraseIdx d) := by
    rw [List.eraseIdx_eq_take_drop_succ]
    have e : bs = bs.take d ++ x :: bs.drop (d + 1) := by rw [← he, List.getElem_cons_drop, List.take_append_drop]
    have := List.perm_middle (a := x) (l₁ := bs.take d) (l₂ := bs.drop (d + 1))
    rw [← e] at this
    exact this
  have h3 : (bs.eraseIdx d).Perm (without bs b.1) := List.Perm.cons_inv (h2.symm.trans h1)
  have h4 : (bs.set d b).Perm (b :: bs.eraseIdx d) := by
    rw [List.set_eq_take_append_cons_drop, if_pos hlt, List.eraseIdx_eq_take_drop_succ]
    exact List.perm_middle
  exact h4.trans (h3.cons b)
theorem erase_perm {bs : List Bor} (hn : (bs.map (·.1)).Nodup) {k : Int × Int} {d : Nat} {x : Bor} (hd : bs[d]? = some x) (hg : getB bs k = some x) : (bs.eraseIdx d).Perm (without bs k) := by
  obtain ⟨hlt, he⟩ := List.getElem?_eq_some_iff.1 hd
  have h1 := getB_perm hn hg
  have h2 : bs.Perm (x :: bs.eraseIdx d) := by
    rw [List.eraseIdx_eq_take_drop_succ]
    have e : bs = bs.take d ++ x :: bs.drop (d + 1) := by rw [← he, List.getElem_cons_drop, List.take_append_drop]
    have := List.perm_middle (a := x) (l₁ := bs.take d) (l₂ := bs.drop (d + 1))
    rw [← e] at this
    exact this
  exact List.Perm.cons_inv (h2.symm.trans h1)
theorem put_b {w : World} {mb : Nat} {bs : List Bor} (h : MapIs w mb bs) (hn : (bs.map (·.1)).Nodup) (b : Bor) : ∃ w' bs', (Instr.mapUpdate 52 (.map (some mb)) (.agg #[.int .i64 b.1.1, .int .i64 b.1.2]) (.agg #[.int .i64 b.1.1, .int .i64 b.1.2, .int .i64 b.2.1, .int .i64 b.2.2])).run Try.prog w = .ok () w' ∧ MapIs w' mb bs' ∧ Mod [mb] w w' ∧ w'.heap.size = w.heap.size ∧ bs'.Perm (b :: without bs b.1) := by
  obtain ⟨es, c, hb, hk, hp, hc⟩ := h
  have hf := find_key b.1 w es.toList bs hk
  have hck := check_key false b.1 w
  unfold kv at hf hck
  cases ha : askB b.1 bs 0 with
  | none =>
    rw [ha] at hf
    have hg := askB_none b.1 bs 0 ha
    refine ⟨{ w with heap := w.heap.setIfInBounds mb (.map (es.push { key := kv b.1, val := bv b, born := c }) (c + 1)) }, bs ++ [b], ?_, ⟨_, _, at_setMap hb, ?_, ?_, ?_⟩, (Mod.refl _ w).setMap (.inl (by simp)) _, by simp, ?_⟩
    · unfold Instr.mapUpdate
      simp [run_underlying Try.underlying52, Stg.run_getObj_map hb, hf, hck, Stg.run_setObj_map hb, kv, bv]
    · rw [Array.toList_push]
      exact ⟨by rw [List.map_append, List.map_append, hk.1]; rfl, by rw [List.map_append, List.map_append, hk.2]; rfl⟩
    · rw [Array.toList_push, List.map_append, List.pairwise_append]
      refine ⟨hp, by simp, fun x hx y hy => ?_⟩
      obtain ⟨e, he, rfl⟩ := List.mem_map.1 hx
      simp at hy
      subst hy
      exact hc e he
    · intro e he
      rw [Array.toList_push] at he
      rcases List.mem_append.1 he with he | he
      · have := hc e he; omega
      · rw [List.mem_singleton.1 he]; exact Nat.lt_succ_self c
    · rw [without_none hg]
      exact List.perm_append_comm
  | some p =>
    obtain ⟨j, v⟩ := p
    rw [ha] at hf
    obtain ⟨d, x, hj, hd, hx, hv, hg⟩ := askB_some b.1 bs 0 j v ha
    obtain rfl : j = d := by omega
    have hlt : j < es.toList.length := by rw [hk.length]; exact (List.getElem?_eq_some_iff.1 hd).1
    have hej : es.toList[j]? = some es.toList[j] := List.getElem?_eq_getElem hlt
    obtain ⟨x', hx', hkey, _⟩ := hk.get hej
    obtain rfl : x' = x := Option.some.inj (hx'.symm.trans hd)
    have hej2 : es[j]? = some es.toList[j] := by rw [← Array.getElem?_toList]; exact hej
    refine ⟨{ w with heap := w.heap.setIfInBounds mb (.map (es.modify j fun e => { e with key := kv b.1, val := bv b }) c) }, bs.set j b, ?_, ⟨_, _, at_setMap hb, ?_, ?_, ?_⟩, (Mod.refl _ w).setMap (.inl (by simp)) _, by simp, set_perm hn hd hg⟩
    · unfold Instr.mapUpdate
      rw [hx] at hkey
      have hkey' : es[j]'(by simpa using hlt) = es.toList[j] := by simp
      rw [← hkey'] at hkey hej2
      unfold kv at hkey
      simp [run_underlying Try.underlying52, Stg.run_getObj_map hb, hf, hck, Stg.run_setObj_map hb, kv, bv, hej2, hkey, Instr.keyThatStays, Instr.sameBits]
    · rw [Array.toList_modify]
      refine ⟨?_, ?_⟩
      · apply List.ext_getElem?
        intro i
        have h1 := congrArg (·[i]?) hk.1
        simp only [List.getElem?_map] at h1
        rw [List.getElem?_map, List.getElem?_map, List.getElem?_modify, List.getElem?_set]
        by_cases hij : j = i
        · subst hij
          have hl2 : j < bs.length := (List.getElem?_eq_some_iff.1 hd).1
          simp [hej, hl2]
        · simpa [hij] using h1
      · apply List.ext_getElem?
        intro i
        have h1 := congrArg (·[i]?) hk.2
        simp only [List.getElem?_map] at h1
        rw [List.getElem?_map, List.getElem?_map, List.getElem?_modify, List.getElem?_set]
        by_cases hij : j = i
        · subst hij
          have hl2 : j < bs.length := (List.getElem?_eq_some_iff.1 hd).1
          simp [hej, hl2]
        · simpa [hij] using h1
    · have e : (es.modify j fun e => { e with key := kv b.1, val := bv b }).toList.map (·.born) = es.toList.map (·.born) := by
        rw [Array.toList_modify]
        apply List.ext_getElem?
        intro i
        rw [List.getElem?_map, List.getElem?_map, List.getElem?_modify]
        cases es.toList[i]? with
        | none => rfl
        | some e => by_cases hij : j = i <;> simp [hij]
      rw [e]; exact hp
    · intro e he
      rw [Array.toList_modify] at he
      obtain ⟨i, hi, rfl⟩ := List.mem_iff_getElem.1 he
      rw [List.getElem_modify]
      have := hc _ (List.getElem_mem (show i < es.toList.length by simpa using hi))
      split <;> exact this
theorem del_b {w : World} {mb : Nat} {bs : List Bor} (h : MapIs w mb bs) (hn : (bs.map (·.1)).Nodup) (k : Int × Int) (ty : TypeId) : ∃ w' bs', (Builtin.delete_ #[52, 58] ty #[.map (some mb), .agg #[.int .i64 k.1, .int .i64 k.2]]).run Try.prog w = .ok (.tuple #[]) w' ∧ MapIs w' mb bs' ∧ Mod [mb] w w' ∧ w'.heap.size = w.heap.size ∧ bs'.Perm (without bs k) := by
  obtain ⟨es, c, hb, hk, hp, hc⟩ := h
  have hf := find_key k w es.toList bs hk
  have hck := check_key es.isEmpty k w
  unfold kv at hf hck
  cases ha : askB k bs 0 with
  | none =>
    rw [ha] at hf
    have hg := askB_none k bs 0 ha
    refine ⟨{ w with heap := w.heap.setIfInBounds mb (.map es c) }, bs, ?_, ⟨_, _, at_setMap hb, hk, hp, hc⟩, (Mod.refl _ w).setMap (.inl (by simp)) _, by simp, by rw [without_none hg]⟩
    unfold Builtin.delete_
    simp [run_underlying Try.underlying52, Stg.run_getObj_map hb, hf, hck, Stg.run_setObj_map hb]
  | some p =>
    obtain ⟨j, v⟩ := p
    rw [ha] at hf
    obtain ⟨d, x, hj, hd, hx, hv, hg⟩ := askB_some k bs 0 j v ha
    obtain rfl : j = d := by omega
    have hlt : j < es.size := by
      have := hk.length
      have := (List.getElem?_eq_some_iff.1 hd).1
      simp at *; omega
    have he : (es.eraseIdxIfInBounds j).toList = es.toList.eraseIdx j := by simp [Array.eraseIdxIfInBounds, hlt]
    refine ⟨{ w with heap := w.heap.setIfInBounds mb (.map (es.eraseIdxIfInBounds j) c) }, bs.eraseIdx j, ?_, ⟨_, _, at_setMap hb, ?_, ?_, ?_⟩, (Mod.refl _ w).setMap (.inl (by simp)) _, by simp, erase_perm hn hd hg⟩
    · unfold Builtin.delete_
      simp [run_underlying Try.underlying52, Stg.run_getObj_map hb, hf, hck, Stg.run_setObj_map hb]
    · rw [he]
      exact ⟨by rw [map_erase, hk.1, ← map_erase], by rw [map_erase, hk.2, ← map_erase]⟩
    · rw [he]
      exact hp.sublist ((List.eraseIdx_sublist _ _).map _)
    · rw [he]
      intro e he
      exact hc e ((List.eraseIdx_sublist _ _).mem he)
end Go.Proofs.Ytappkiiihnaegaa
