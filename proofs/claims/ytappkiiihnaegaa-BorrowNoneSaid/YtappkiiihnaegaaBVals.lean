/- Borrows: maps.Values over the ledger's map. -/
import Derived.Test.YtappkiiihnaegaaBIter
import Derived.Test.YtappkiiihnaegaaSays
import Derived.Sort.MapsRangeIn
namespace Go.Proofs.Ytappkiiihnaegaa
open Go Go.RowKit Go.Stg
attribute [local go_sem] Oper.semAt_some

/-- A map, nil or not. -/
def MapV (w : World) (mv : Value) (bs : List Bor) : Prop := (mv = .map none ∧ bs = []) ∨ ∃ mb, mv = .map (some mb) ∧ MapIs w mb bs
def IterV (w : World) (r : Nat) (mv : Value) (rest : List Bor) : Prop := (mv = .map none ∧ rest = [] ∧ w.heap[r]? = some (.mapIter none 0 #[] 0)) ∨ ∃ mb, mv = .map (some mb) ∧ r ≠ mb ∧ IterAt w r mb rest
def mapBlk : Value → Option Nat
  | .map m => m
  | _ => none
theorem MapV.keep {w w' : World} {mv : Value} {bs : List Bor} (h : MapV w mv bs) (hk : ∀ mb, mapBlk mv = some mb → w'.heap[mb]? = w.heap[mb]?) : MapV w' mv bs := by
  rcases h with h | ⟨mb, rfl, es, c, h1, h2⟩
  · exact .inl h
  · exact .inr ⟨mb, rfl, es, c, (hk mb rfl).trans h1, h2⟩
theorem MapV.lt {w : World} {mv : Value} {bs : List Bor} (h : MapV w mv bs) : ∀ mb, mapBlk mv = some mb → mb < w.heap.size := by
  rcases h with ⟨rfl, _⟩ | ⟨mb, rfl, es, c, h1, h2⟩
  · intro mb h; cases h
  · intro mb' h; cases h; exact lt_of h1
theorem IterV.walk {w : World} {r : Nat} {mv : Value} {rest : List Bor} (h : IterV w r mv rest) : ∃ o : Obj, w.heap[r]? = some o ∧ o.isWalk = true := by
  rcases h with ⟨_, _, h⟩ | ⟨_, _, _, _, _, _, _, _, _, h, _⟩
  · exact ⟨_, h, rfl⟩
  · exact ⟨_, h, rfl⟩
theorem IterV.same {w w' : World} {r : Nat} {mv : Value} {rest : List Bor} (h : IterV w r mv rest) (h1 : ∀ mb, mapBlk mv = some mb → w'.heap[mb]? = w.heap[mb]?) (h2 : w'.heap[r]? = w.heap[r]?) : IterV w' r mv rest := by
  rcases h with ⟨e, f, h⟩ | ⟨mb, e, hr, h⟩
  · exact .inl ⟨e, f, h2.trans h⟩
  · subst e; exact .inr ⟨mb, rfl, hr, h.same (h1 mb rfl) h2⟩
theorem range_v {w : World} {mv : Value} {bs : List Bor} (h : MapV w mv bs) : ∃ ob, (Instr.range 52 mv).run Try.prog w = .ok (.pointer (some ⟨w.heap.size, 0, none⟩)) (w.alloc ob) ∧ IterV (w.alloc ob) w.heap.size mv bs := by
  rcases h with ⟨rfl, rfl⟩ | ⟨mb, rfl, h⟩
  · refine ⟨_, ?_, .inl ⟨rfl, rfl, at_alloc _ _⟩⟩
    unfold Instr.range
    simp [run_underlying Try.underlying52]
  · obtain ⟨c, h1, h2⟩ := range_b h
    refine ⟨_, h1, .inr ⟨mb, rfl, ?_, h2⟩⟩
    obtain ⟨es, c, h1, _⟩ := h
    have := lt_of h1
    omega
/-- How many entries are left. -/
def leftN (w : World) (r : Nat) : Nat := match w.heap[r]? with
  | some (.mapIter (some m) _ seen _) => match w.heap[m]? with
    | some (.map es _) => (es.toList.filter fun e => !seen.contains e.born).length
    | _ => 0
  | _ => 0
theorem IterV.left {w : World} {r : Nat} {mv : Value} {rest : List Bor} (h : IterV w r mv rest) : leftN w r = rest.length := by
  rcases h with ⟨_, rfl, h⟩ | ⟨mb, _, _, es, c, seen, h1, _, _, h2, h3⟩
  · unfold leftN; rw [h]; rfl
  · unfold leftN; rw [h2]; simp only [h1]; exact h3.length
theorem next_over_v {w : World} {r : Nat} {mv : Value} (h : IterV w r mv []) (ty : TypeId) : ∃ w', (Instr.next (.pointer (some ⟨r, 0, none⟩)) false ty).run Try.prog w = .ok (.tuple #[.bool false]) w' ∧ Mod [] w w' := by
  rcases h with ⟨_, _, h⟩ | ⟨mb, _, _, h⟩
  · refine ⟨w, ?_, Mod.refl _ _⟩
    unfold Instr.next
    simp [getObj, Sem.run, h, Sem.run_bind]
  · exact next_over h ty
theorem next_some_v {w : World} {r : Nat} {mv : Value} {rest : List Bor} (h : IterV w r mv rest) (hne : rest ≠ []) (ty : TypeId) : ∃ (i : Nat) (b : Bor) (w' : World), rest[i]? = some b ∧ (Instr.next (.pointer (some ⟨r, 0, none⟩)) false ty).run Try.prog w = .ok (.tuple #[.bool true, kv b.1, bv b]) w' ∧ IterV w' r mv (rest.eraseIdx i) ∧ Mod [r] w w' ∧ w'.heap.size = w.heap.size ∧ (Instr.entry (.pointer (some ⟨r, 0, none⟩))).run Try.prog w' = .ok (.tuple #[kv b.1, bv b]) w' := by
  rcases h with ⟨_, rfl, _⟩ | ⟨mb, e, hr, h⟩
  · exact absurd rfl hne
  · obtain ⟨i, b, w', h1, h2, h3, h4⟩ := next_some h hne hr ty
    exact ⟨i, b, w', h1, h2, .inr ⟨mb, e, hr, h3⟩, h4⟩
theorem values_made (mv : Value) (hmv : ∃ m, mv = .map m) (w : World) : Calls Try.prog 41 #[mv] w fun e w' => e = .returned (.func (.func 48) #[] #[.pointer (some ⟨w.heap.size, 0, none⟩)]) ∧ w' = w.alloc (.cells #[mv] 52) := by
  obtain ⟨m, rfl⟩ := hmv
  go_enter Try.func41, Try.ntmps41
  go_wp2
  go_ret
  exact ⟨rfl, rfl⟩
theorem grown_mod {a b : World} (h : Mod [] a b) {row : Option Nat} : a.grownBy b row :=
  let hb := h.below; ⟨hb.os, hb.tape, hb.output, hb.size, fun k hk _ => hb.block k hk⟩
/-- What the loop's body keeps. -/
def KpV (n₀ : Nat) (V V' : World) : Prop := RowKit.Below n₀ V V' ∧ KeepsWalks V V'
theorem perm_take {bs pre rest : List Bor} {i : Nat} {b : Bor} (h : bs.Perm (pre ++ rest)) (hb : rest[i]? = some b) : bs.Perm ((pre ++ [b]) ++ rest.eraseIdx i) := by
  obtain ⟨hi, rfl⟩ := List.getElem?_eq_some_iff.1 hb
  refine h.trans ?_
  rw [List.append_assoc]
  refine List.Perm.append_left pre ?_
  have e : rest = rest.take i ++ rest[i] :: rest.drop (i + 1) := by rw [List.getElem_cons_drop, List.take_append_drop]
  rw [List.eraseIdx_eq_take_drop_succ]
  conv => lhs; rw [e]
  exact List.perm_middle
set_option maxRecDepth 100000 in
set_option maxHeartbeats 4000000 in
theorem valuesC_in (n' : Nat) (hn' : 1 ≤ n') (l Bs n₀ : Nat) {mv : Value} {bs : List Bor} (J Jx : List Bor → World → Prop) (w0 W : World) (h0 : n₀ ≤ w0.heap.size) (hR : MapV w0 mv bs) (hf : ∀ mb, mapBlk mv = some mb → mb < n₀) (hW : RowKit.Below w0.heap.size w0 W)
    (hBs : w0.heap[Bs]? = some (.cells #[mv] 52 (0, 0))) (hJ : AbidesFrom W.heap.size J) (h00 : J [] W)
    (hY : ∀ pre x V, J pre V → pre.length < bs.length → YieldAt Fence.wide (n' - 1) Try.prog l #[bv x] V fun e V' =>
      (e = .returned (.bool true) ∧ J (pre ++ [x]) V' ∧ KpV n₀ V V') ∨ (e = .returned (.bool false) ∧ Jx (pre ++ [x]) V')) :
    CallsIn Fence.wide n' Try.prog 48 #[.func (.yield l) #[] #[], .pointer (some ⟨Bs, 0, none⟩)] W fun e V => (∃ v, e = .returned v) ∧ ((∃ xs, xs.Perm bs ∧ J xs V) ∨ (∃ pre : List Bor, True ∧ Jx pre V)) := by
  have hMW : MapV W mv bs := hR.keep fun mb h => (hW.block mb (by have := hf mb h; omega))
  have hcl := (Mod.of_below hW).at hBs (by simp)
  have hcc := cells_of hcl
  have hmm : ∃ m, mv = .map m := by rcases hR with ⟨rfl, _⟩ | ⟨mb, rfl, _⟩ <;> exact ⟨_, rfl⟩
  obtain ⟨m, rfl⟩ := hmm
  obtain ⟨ob, hr1, hr2⟩ := range_v hMW
  have hWsz := hW.size
  have hr2H := Lib.hid hr2
  have hJH := Lib.hid hJ
  have hYH := Lib.hid hY
  have h00H := Lib.hid h00
  have hRH := Lib.hid hR
  have hW1H := Lib.hid hW
  have hfH := Lib.hid hf
  clear hW hBs hJ h00 hY hcl hR hMW hr2 hf
  refine callsIn_of_wp Try.func48 rfl trivial ?_ rfl
  simp only [Try.ntmps48, List.size_toArray, List.length_cons, List.length_nil, Nat.reduceAdd, Nat.reduceSub, Array.replicate_succ, Array.replicate_zero, List.push_toArray, List.append_toArray, List.nil_append, List.cons_append]
  gi_wp2_with fail
  have hM0 := (Mod.refl [] W).alloc ob
  have hJ0 := Lib.hid (hJH.out _ _ _ none h00H.out (World.grownBy_alloc W ob none) (by simp))
  have hsz0 : (W.alloc ob).heap.size = W.heap.size + 1 := by simp
  have hB0 : RowKit.Below n₀ w0 (W.alloc ob) := (hW1H.out.mono h0).trans (hM0.below.mono (Nat.le_trans h0 hWsz))
  have hB0H := Lib.hid hB0
  clear hr1 hM0 hB0 hcc h00H
  generalize W.alloc ob = W1 at *
  generalize hr : W.heap.size = r at *
  gi_loopw [4] (fun _ wr => ∃ pre rest : List Bor, IterV wr r (.map m) rest ∧ bs.Perm (pre ++ rest) ∧ J pre wr ∧ RowKit.Below n₀ w0 wr ∧ r < wr.heap.size) (fun _ wr => leftN wr r)
  case atStart => exact ⟨[], bs, hr2H.out, by simp, hJ0.out, hB0H.out, by omega⟩
  case round =>
    obtain ⟨pre, rest, hit, hp, hJr, hBr, hsz⟩ := hrel
    have hpH := Lib.hid hp
    have hJrH := Lib.hid hJr
    have hBrH := Lib.hid hBr
    have hitH := Lib.hid hit
    clear hp hJr hBr hJ0 hB0H hr2H
    by_cases hne : rest = []
    · subst hne
      obtain ⟨w2, hn1, hn2⟩ := next_over_v hit (0 : Nat)
      clear hit
      have hJ2 := hJH.out _ _ _ none hJrH.out (grown_mod hn2) (by simp)
      have hJ2H := Lib.hid hJ2
      clear hJ2 hn2
      gi_wp2_with fail
      go_end0
      exact ⟨⟨_, rfl⟩, .inl ⟨pre, by have := hpH.out; rw [List.append_nil] at this; exact this.symm, hJ2H.out⟩⟩
    · obtain ⟨i, b, w2, hbi, hn1, hit2, hn2, hs2, hen⟩ := next_some_v hit hne (0 : Nat)
      have hwk := hit.walk
      have hg2 : wr.grownBy w2 (some r) := ⟨hn2.os, hn2.tape, hn2.output, hn2.size, fun k hk hk2 => hn2.block k hk (by simpa using fun e => hk2 (by rw [e]))⟩
      have hJ2 := hJH.out _ _ _ (some r) hJrH.out hg2 (fun r' e => by cases e; exact ⟨Nat.le_refl _, hwk⟩)
      have hJ3 := hJH.out _ _ _ none hJ2 (World.grownBy_alloc w2 (.cells #[.int .i64 b.1.1, .int .i64 b.1.2, .int .i64 b.2.1, .int .i64 b.2.2] 25) none) (by simp)
      have hB2 : RowKit.Below n₀ wr w2 := ⟨hn2.os, hn2.tape, hn2.output, hn2.size, fun k hk => hn2.block k (by omega) (by simp; omega)⟩
      have hB3 := hBrH.out.trans (hB2.trans ((RowKit.Below.refl n₀ w2).alloc (by omega) (.cells #[.int .i64 b.1.1, .int .i64 b.1.2, .int .i64 b.2.1, .int .i64 b.2.2] 25)))
      have hit3 : IterV (w2.alloc (.cells #[.int .i64 b.1.1, .int .i64 b.1.2, .int .i64 b.2.1, .int .i64 b.2.2] 25)) r (.map m) (rest.eraseIdx i) := hit2.same (fun mb hmb => RowKit.Below.heap_alloc _ _ _ (by have := hfH.out mb hmb; omega)) (RowKit.Below.heap_alloc _ _ _ (by omega))
      have hp2 := perm_take hpH.out hbi
      have hlen : pre.length < bs.length := by have := hp2.length_eq; simp at this; omega
      have hlr : leftN wr r = rest.length := hit.left
      have hil : i < rest.length := (List.getElem?_eq_some_iff.1 hbi).1
      have hYx := hYH.out pre b _ hJ3 hlen
      have hsz3 : (w2.alloc (.cells #[.int .i64 b.1.1, .int .i64 b.1.2, .int .i64 b.2.1, .int .i64 b.2.2] 25)).heap.size = wr.heap.size + 1 := by simp [hs2]
      have hB3H := Lib.hid hB3
      have hit3H := Lib.hid hit3
      have hp2H := Lib.hid hp2
      have hlrH := Lib.hid hlr
      obtain ⟨fn, tmps, assign, body, hy, hR⟩ := hYx
      unfold bv at hy hn1 hen
      clear hit hJ2 hJ3 hB2 hB3 hit3 hp2 hbi hit2 hn2 hg2 hwk hlen hlr hitH hJrH hpH hBrH
      gi_wp2_with fail
      refine hR.mono ?_
      rintro e W3 (⟨rfl, hJ4, hk4, hk5⟩ | ⟨rfl, hJx4⟩)
      · have hit4 := hit3H.out.same (fun mb hmb => hk4.block mb (by have := hfH.out mb hmb; omega)) (by obtain ⟨o, h1, h2⟩ := hit3H.out.walk; rw [h1, hk5.same r o h1 h2])
        have hit4H := Lib.hid hit4
        have hB4H := Lib.hid (hB3H.out.trans hk4)
        have hJ4H := Lib.hid hJ4
        have hsz4 := hk5.size
        clear hit4 hk4 hk5 hJ4
        gi_wp2_with fail
        go_roundw
        case rel => exact ⟨pre ++ [b], rest.eraseIdx i, hit4H.out, hp2H.out, hJ4H.out, hB4H.out, by omega⟩
        case measure => rw [hit4H.out.left, hlrH.out, List.length_eraseIdx]; simp [hil]; omega
      · gi_wp2_with fail
        refine bodyPost_ret (results_none rfl _ _ _) rfl ?_
        exact ⟨⟨_, rfl⟩, .inr ⟨_, trivial, hJx4⟩⟩
/-- A loop over the ledger's borrows, in whatever order. -/
theorem values_says (n' : Nat) (hn' : 1 ≤ n') (Bs n₀ : Nat) {mv : Value} {bs : List Bor} (w0 : World) (h0 : n₀ ≤ w0.heap.size) (hR : MapV w0 mv bs) (hf : ∀ mb, mapBlk mv = some mb → mb < n₀)
    (hBs : w0.heap[Bs]? = some (.cells #[mv] 52 (0, 0))) :
    SeqSays Fence.wide n' Try.prog 48 #[.pointer (some ⟨Bs, 0, none⟩)] (fun b : Bor => #[bv b]) (fun _ _ _ => True) (KpV n₀) (fun ys => ys.Perm bs) (fun _ => True) bs.length w0 := fun l J Jx W hW hJ _ h00 hY =>
  valuesC_in n' hn' l Bs n₀ J Jx w0 W h0 hR hf hW hBs hJ h00 fun pre x V h1 h2 => hY pre x V h1 trivial h2
end Go.Proofs.Ytappkiiihnaegaa
