/- Borrows: a range over the map of borrows. -/
import Derived.Test.YtappkiiihnaegaaBMap
namespace Go.Proofs.Ytappkiiihnaegaa
open Go Go.RowKit Go.Stg

theorem filter_born : ∀ {l : List MapEntry} {i : Nat}, (l.map (·.born)).Pairwise (· < ·) → (hi : i < l.length) → l.filter (fun e => e.born != l[i].born) = l.eraseIdx i
  | [], i, _, hi => by simp at hi
  | e :: l, 0, hp, _ => by
    rw [List.map_cons, List.pairwise_cons] at hp
    simp only [List.getElem_cons_zero, List.eraseIdx_cons_zero, List.filter_cons]
    rw [if_neg (by simp), List.filter_eq_self]
    intro a ha
    have := hp.1 a.born (List.mem_map_of_mem ha)
    simp; omega
  | e :: l, i + 1, hp, hi => by
    rw [List.map_cons, List.pairwise_cons] at hp
    have hi' : i < l.length := by simpa using hi
    simp only [List.getElem_cons_succ, List.eraseIdx_cons_succ, List.filter_cons]
    have := hp.1 l[i].born (List.mem_map_of_mem (List.getElem_mem hi'))
    rw [if_pos (by simp; omega), filter_born hp.2 hi']
theorem BKeys.erase {es : List MapEntry} {bs : List Bor} (h : BKeys es bs) (i : Nat) : BKeys (es.eraseIdx i) (bs.eraseIdx i) :=
  ⟨by rw [map_erase, h.1, ← map_erase], by rw [map_erase, h.2, ← map_erase]⟩
/-- An iterator (block r) over a map (block mb): what is left. -/
def IterAt (w : World) (r mb : Nat) (rest : List Bor) : Prop :=
  ∃ es c seen, w.heap[mb]? = some (.map es c) ∧ (es.toList.map (·.born)).Pairwise (· < ·) ∧ (∀ e ∈ es.toList, e.born < c) ∧ w.heap[r]? = some (.mapIter (some mb) c seen c) ∧ BKeys (es.toList.filter fun e => !seen.contains e.born) rest
theorem IterAt.same {w w' : World} {r mb : Nat} {rest : List Bor} (h : IterAt w r mb rest) (h1 : w'.heap[mb]? = w.heap[mb]?) (h2 : w'.heap[r]? = w.heap[r]?) : IterAt w' r mb rest := by
  obtain ⟨es, c, seen, k1, k2, k3, k4, k5⟩ := h
  exact ⟨es, c, seen, h1.trans k1, k2, k3, h2.trans k4, k5⟩
theorem range_b {w : World} {mb : Nat} {bs : List Bor} (h : MapIs w mb bs) : ∃ c, (Instr.range 52 (.map (some mb))).run Try.prog w = .ok (.pointer (some ⟨w.heap.size, 0, none⟩)) (w.alloc (.mapIter (some mb) c #[] c)) ∧ IterAt (w.alloc (.mapIter (some mb) c #[] c)) w.heap.size mb bs := by
  obtain ⟨es, c, hb, hk, hp, hc⟩ := h
  refine ⟨c, ?_, es, c, #[], at_alloc_old hb, hp, hc, at_alloc _ _, by rw [List.filter_eq_self.2 (fun a _ => by simp)]; exact hk⟩
  unfold Instr.range
  simp [run_underlying Try.underlying52, Stg.run_getObj_map hb]
theorem run_getObj_iter {P : Program} {w : World} {r m since last : Nat} {seen : Array Nat} (hr : w.heap[r]? = some (.mapIter (some m) since seen last)) : (getObj r).run P w = .ok (.mapIter (some m) since seen last) w := by
  simp [getObj, Sem.run, hr]
theorem run_setObj_iter {P : Program} {w : World} {r m since last : Nat} {seen : Array Nat} (hr : w.heap[r]? = some (.mapIter (some m) since seen last)) (o : Obj) : (setObj r o).run P w = .ok () { w with heap := w.heap.setIfInBounds r o } := by
  simp [setObj, Sem.run, hr]
theorem next_over {w : World} {r mb : Nat} (h : IterAt w r mb []) (ty : TypeId) : ∃ w', (Instr.next (.pointer (some ⟨r, 0, none⟩)) false ty).run Try.prog w = .ok (.tuple #[.bool false]) w' ∧ Mod [] w w' := by
  obtain ⟨es, c, seen, k1, k2, k3, k4, k5⟩ := h
  have hnil : es.toList.filter (fun e => !seen.contains e.born) = [] := List.eq_nil_of_length_eq_zero k5.length
  have hl : es.filter (fun e => !seen.contains e.born) = #[] := by rw [← Array.toList_eq_nil_iff, Array.toList_filter]; exact hnil
  have hchk : (!seen.isEmpty && !es.isEmpty && es.all fun e => decide (e.born ≥ c)) = false := by
    by_cases he : es.isEmpty = true
    · simp [he]
    · have : ∃ e, e ∈ es.toList := by
        cases hes : es.toList with
        | nil => exact absurd (by simpa [Array.isEmpty] using hes) he
        | cons a l => exact ⟨a, by simp⟩
      obtain ⟨e, hm⟩ := this
      have hlt := k3 e hm
      have : (es.all fun e => decide (e.born ≥ c)) = false := by
        rw [Array.all_eq_false]
        obtain ⟨i, hi, rfl⟩ := List.mem_iff_getElem.1 hm
        exact ⟨i, by simpa using hi, by simp at hlt ⊢; omega⟩
      rw [this]; simp
  refine ⟨w, ?_, Mod.refl _ _⟩
  unfold Instr.next
  simp only [Sem.run_bind, run_getObj_iter k4, Result.andThen_ok, Stg.run_getObj_map k1, hchk, hl]
  simp [Question.forced]
theorem find_born : ∀ {l : List MapEntry} {e : MapEntry}, (l.map (·.born)).Pairwise (· < ·) → e ∈ l → l.find? (fun a => a.born == e.born) = some e
  | [], _, _, h => by cases h
  | a :: l, e, hp, h => by
    rw [List.map_cons, List.pairwise_cons] at hp
    rcases List.mem_cons.1 h with rfl | h
    · simp
    · have := hp.1 e.born (List.mem_map_of_mem h)
      rw [List.find?_cons_of_neg (by simp; omega)]
      exact find_born hp.2 h
theorem choose_next {P : Program} (w : World) (n : Nat) (hn : 1 ≤ n) : ∃ i w1, (choose (.mapNext n)).run P w = .ok i w1 ∧ i < n ∧ Mod [] w w1 ∧ w1.heap = w.heap := by
  rw [run_choose_drew]
  split
  · exact ⟨0, w, rfl, hn, Mod.refl _ _, rfl⟩
  · exact ⟨_, w.drew, rfl, Nat.mod_lt _ hn, (Mod.refl _ _).drew, rfl⟩
theorem not_contains_push (seen : Array Nat) (x y : Nat) : (!(seen.push x).contains y) = (!seen.contains y && y != x) := by
  by_cases h : y = x
  · subst h; simp
  · have h2 : ¬ x = y := fun e => h e.symm
    simp [h, h2]
theorem next_some {w : World} {r mb : Nat} {rest : List Bor} (h : IterAt w r mb rest) (hne : rest ≠ []) (hrm : r ≠ mb) (ty : TypeId) : ∃ (i : Nat) (b : Bor) (w' : World), rest[i]? = some b ∧ (Instr.next (.pointer (some ⟨r, 0, none⟩)) false ty).run Try.prog w = .ok (.tuple #[.bool true, kv b.1, bv b]) w' ∧ IterAt w' r mb (rest.eraseIdx i) ∧ Mod [r] w w' ∧ w'.heap.size = w.heap.size ∧ (Instr.entry (.pointer (some ⟨r, 0, none⟩))).run Try.prog w' = .ok (.tuple #[kv b.1, bv b]) w' := by
  obtain ⟨es, c, seen, k1, k2, k3, k4, k5⟩ := h
  obtain ⟨A, hA⟩ : ∃ A, es.filter (fun e => !seen.contains e.born) = A := ⟨_, rfl⟩
  have hAl : es.toList.filter (fun e => !seen.contains e.born) = A.toList := by rw [← hA, Array.toList_filter]
  rw [hAl] at k5
  have hsz : A.size = rest.length := by have := k5.length; simpa using this
  have hpos : 1 ≤ A.size := by rw [hsz]; exact Nat.pos_of_ne_zero fun e => hne (List.eq_nil_of_length_eq_zero e)
  have hlt : ∀ e ∈ A.toList, e.born < c := fun e he => by rw [← hAl] at he; exact k3 e (List.mem_filter.1 he).1
  have hold : A.filter (fun e => decide (e.born < c)) = A := by
    apply Array.toList_inj.1
    rw [Array.toList_filter, List.filter_eq_self]
    intro e he; simpa using hlt e he
  have hnew : A.filter (fun e => decide (e.born ≥ c)) = #[] := by
    apply Array.toList_inj.1
    rw [Array.toList_filter]
    apply List.filter_eq_nil_iff.2
    intro e he; have := hlt e he; simp; omega
  have hchk : (!seen.isEmpty && !es.isEmpty && es.all fun e => decide (e.born ≥ c)) = false := by
    have hm : A[0] ∈ es.toList := by
      have : A[0] ∈ A.toList := by simp
      rw [← hAl] at this
      exact (List.mem_filter.1 this).1
    have hl := k3 _ hm
    have : (es.all fun e => decide (e.born ≥ c)) = false := by
      rw [Array.all_eq_false]
      obtain ⟨i, hi, he⟩ := List.mem_iff_getElem.1 hm
      refine ⟨i, by simpa using hi, ?_⟩
      have he : es[i]'(by simpa using hi) = A[0] := by simpa using he
      rw [he]; simp; omega
    rw [this]; simp
  obtain ⟨i, w1, hch, hi, hm1, hh1⟩ := choose_next (P := Try.prog) w A.size hpos
  have hiA : A[i]? = some A[i] := by simp [hi]
  obtain ⟨b, hb, hkey, hval⟩ := k5.get (i := i) (e := A[i]) (by rw [Array.getElem?_toList]; exact hiA)
  have hr1 : w1.heap[r]? = some (.mapIter (some mb) c seen c) := by rw [hh1]; exact k4
  have hs1 : w1.heap.size = w.heap.size := by rw [hh1]
  have hrl := lt_of k4
  refine ⟨i, b, { w1 with heap := w1.heap.setIfInBounds r (.mapIter (some mb) c (seen.push A[i].born) c) }, hb, ?_, ?_, ?_, by simp [hs1], ?_⟩
  · have hemp : A.isEmpty = false := by
      cases h : A.isEmpty with
      | false => rfl
      | true => have := Array.isEmpty_iff_size_eq_zero.1 h; omega
    have hcand : (A.map some)[i]? = some (some A[i]) := by rw [Array.getElem?_map, hiA]; rfl
    unfold Instr.next
    simp only [Sem.run_bind, run_getObj_iter k4, Result.andThen_ok, Stg.run_getObj_map k1, hchk, hA, hold, hnew]
    simp only [Bool.false_eq_true, if_false, hemp, Array.append_empty, Array.empty_append, Array.size_map]
    simp only [hch, Result.andThen_ok, hcand, Sem.run_bind, run_setObj_iter hr1, Sem.run_pure, hkey, hval]
  · refine ⟨es, c, seen.push A[i].born, ?_, k2, k3, ?_, ?_⟩
    · show (w1.heap.setIfInBounds r _)[mb]? = _
      rw [Array.getElem?_setIfInBounds_ne hrm, hh1]
      exact k1
    · show (w1.heap.setIfInBounds r _)[r]? = _
      rw [Array.getElem?_setIfInBounds_self_of_lt (by rw [hs1]; exact hrl)]
    · have e : es.toList.filter (fun e => !(seen.push A[i].born).contains e.born) = (es.toList.filter (fun e => !seen.contains e.born)).filter (fun e => e.born != A[i].born) := by
        rw [List.filter_filter]
        congr 1
        funext e
        rw [not_contains_push, Bool.and_comm]
      have hpA : (A.toList.map (·.born)).Pairwise (· < ·) := by
        rw [← hAl]
        exact k2.sublist ((List.filter_sublist).map _)
      have hfb := filter_born hpA (i := i) (by simpa using hi)
      rw [e, hAl]
      have e2 : A.toList[i]'(by simpa using hi) = A[i] := by simp
      rw [e2] at hfb
      rw [hfb]
      exact k5.erase i
  · refine ⟨hm1.os, hm1.tape, hm1.output, by simp [hs1], fun k hk hkr => ?_⟩
    show (w1.heap.setIfInBounds r _)[k]? = _
    rw [Array.getElem?_setIfInBounds_ne (fun e => hkr (by simp [e])), hh1]
  · have e1 : (w1.heap.setIfInBounds r (.mapIter (some mb) c (seen.push A[i].born) c))[mb]? = some (.map es c) := by
      rw [Array.getElem?_setIfInBounds_ne hrm, hh1]
      exact k1
    have e2 : (w1.heap.setIfInBounds r (.mapIter (some mb) c (seen.push A[i].born) c))[r]? = some (.mapIter (some mb) c (seen.push A[i].born) c) := by
      rw [Array.getElem?_setIfInBounds_self_of_lt (by rw [hs1]; exact hrl)]
    have hmem : A[i] ∈ es.toList := by
      have : A[i] ∈ A.toList := by simp
      rw [← hAl] at this
      exact (List.mem_filter.1 this).1
    have hfind : es.find? (fun e => e.born == A[i].born) = some A[i] := by
      rw [← Array.find?_toList]
      exact find_born k2 hmem
    unfold Instr.entry
    simp [run_getObj_iter (w := { w1 with heap := w1.heap.setIfInBounds r (.mapIter (some mb) c (seen.push A[i].born) c) }) e2, Stg.run_getObj_map (w := { w1 with heap := w1.heap.setIfInBounds r (.mapIter (some mb) c (seen.push A[i].born) c) }) e1, hfind, hkey, hval]
end Go.Proofs.Ytappkiiihnaegaa
