/- The quota meter: what each of its functions computes. -/
import Derived.Test.YtbjjeacdgbppoaaProg
import Derived.Test.YtbjjeacdgbppoaaBase
import Derived.WalkSpells
namespace Go.Proofs.Ytbjjeacdgbppoaa
open Go Go.RowKit Go.Stg

structure Q where
  b : Int
  o : Int
  r : Int
def Q.zero : Q := ⟨0, 0, 0⟩
def qv (q : Q) : Value := .agg #[.int .i64 q.b, .int .i64 q.o, .int .i64 q.r]
def Q.i64 (q : Q) : Prop := (-9223372036854775808 ≤ q.b ∧ q.b ≤ 9223372036854775807) ∧ (-9223372036854775808 ≤ q.o ∧ q.o ≤ 9223372036854775807) ∧ (-9223372036854775808 ≤ q.r ∧ q.r ≤ 9223372036854775807)
def Q.pos (q : Q) : Prop := (0 ≤ q.b ∧ q.b ≤ 9223372036854775807) ∧ (0 ≤ q.o ∧ q.o ≤ 9223372036854775807) ∧ (0 ≤ q.r ∧ q.r ≤ 9223372036854775807)
def Q.add (x q : Q) : Q := ⟨x.b + q.b, x.o + q.o, x.r + q.r⟩
def Q.sub (x q : Q) : Q := ⟨x.b - q.b, x.o - q.o, x.r - q.r⟩
def negB (q : Q) : Bool := decide (q.b < 0) || decide (q.o < 0) || decide (q.r < 0)
def fitsB (a b l : Int) : Bool := decide (a ≤ l) && decide (b ≤ l - a)
def fitsE (l x q : Q) : Int := if negB q = true then 1 else if fitsB x.b q.b l.b = true ∧ fitsB x.o q.o l.o = true ∧ fitsB x.r q.r l.r = true then 0 else 16
def overB (x q : Q) : Bool := decide (x.b < q.b) || decide (x.o < q.o) || decide (x.r < q.r)
def subE (x q : Q) : Int := if negB q = true ∨ overB x q = true then 1 else 0
def upd (f : Int → Q) (p : Int) (v : Q) : Int → Q := fun k => if k = p then v else f k

theorem fits_any (a b l : Int) (w : World) (h0 : 0 ≤ a) (h1 : a ≤ 9223372036854775807) (h2 : -9223372036854775808 ≤ l) (h3 : l ≤ 9223372036854775807) :
    Calls Try.prog 23 #[.int .i64 a, .int .i64 b, .int .i64 l] w fun e w' => e = .returned (.bool (fitsB a b l)) ∧ Mod [] w w' := by
  go_enter Try.func23, Try.ntmps23
  go_wp2
  all_goals go_ret
  all_goals refine ⟨?_, Mod.refl _ _⟩
  all_goals (simp [fitsB]; try omega)

theorem negative_any (q : Q) (w : World) : Calls Try.prog 21 #[.agg #[.int .i64 q.b, .int .i64 q.o, .int .i64 q.r]] w fun e w' => e = .returned (.bool (negB q)) ∧ Mod [] w w' := by
  obtain ⟨a, b, c⟩ := q
  go_enter Try.func21, Try.ntmps21
  go_wp2
  all_goals go_ret
  all_goals refine ⟨?_, (Mod.refl _ _).alloc _⟩
  all_goals (simp [negB]; try omega)

/-- What a map pointer of a meter holds. -/
def MapAt (w : World) (mo : Option Nat) (f : Int → Q) : Prop :=
  match mo with
  | none => ∀ k, f k = Q.zero
  | some bm => ∃ es c, w.heap[bm]? = some (.map es c) ∧ IKeys es.toList ∧ ∀ k, (mget k es.toList).getD (qv Q.zero) = qv (f k)
/-- The meter at block b: its limit and what each plugin has. -/
structure MeterAt (w : World) (b : Nat) (mo : Option Nat) (l : Q) (f : Int → Q) : Prop where
  lim : l.i64
  has : ∀ k, (f k).pos
  blk : w.heap[b]? = some (.cells #[.int .i64 l.b, .int .i64 l.o, .int .i64 l.r, .map mo] 47 (0, 0))
  map : MapAt w mo f
  ne : mo ≠ some b

theorem MapAt.keep {w w' : World} {mo : Option Nat} {f : Int → Q} (h : MapAt w mo f) (hk : ∀ x, mo = some x → w'.heap[x]? = w.heap[x]?) : MapAt w' mo f := by
  cases mo with
  | none => exact h
  | some bm =>
    obtain ⟨es, c, h1, h2, h3⟩ := h
    exact ⟨es, c, (hk bm rfl).trans h1, h2, h3⟩
theorem MapAt.lt {w : World} {mo : Option Nat} {f : Int → Q} (h : MapAt w mo f) : ∀ x, mo = some x → x < w.heap.size := by
  cases mo with
  | none => intro x hx; cases hx
  | some bm =>
    obtain ⟨es, c, h1, _⟩ := h
    intro x hx
    obtain rfl := Option.some.inj hx
    exact lt_of h1
theorem MapAt.mod {S : List Nat} {w w' : World} {mo : Option Nat} {f : Int → Q} (h : MapAt w mo f) (hm : Mod S w w') (hS : ∀ x, mo = some x → x ∉ S) : MapAt w' mo f :=
  h.keep fun x hx => hm.block x (h.lt x hx) (hS x hx)
theorem MeterAt.mod {S : List Nat} {w w' : World} {b : Nat} {mo : Option Nat} {l : Q} {f : Int → Q} (h : MeterAt w b mo l f) (hm : Mod S w w') (hS : ∀ x, x ∈ b :: mo.toList → x ∉ S) : MeterAt w' b mo l f :=
  ⟨h.lim, h.has, hm.at h.blk (hS b (by simp)), h.map.mod hm (fun x hx => hS x (by simp [hx])), h.ne⟩
theorem MapAt.look {w : World} {mo : Option Nat} {f : Int → Q} (h : MapAt w mo f) (k : Int) :
    (Instr.lookup 45 (.map mo) (.int .i64 k) false).run Try.prog w = .ok (.agg #[.int .i64 (f k).b, .int .i64 (f k).o, .int .i64 (f k).r]) w := by
  cases mo with
  | none => rw [run_lookup_nil (z := qv Q.zero) Try.underlying45 Try.underlying3 (fun w => Try.zeroValue24 w) w k, h k]; rfl
  | some bm =>
    obtain ⟨es, c, h1, h2, h3⟩ := h
    rw [run_lookup_int (z := qv Q.zero) Try.underlying45 Try.underlying3 (fun w => Try.zeroValue24 w) h1 h2 k, h3 k]; rfl

theorem Fits_nil (p : Int) (q : Q) (w : World) :
    Calls Try.prog 15 #[.pointer none, .int .i64 p, .agg #[.int .i64 q.b, .int .i64 q.o, .int .i64 q.r]] w fun e w' => e = .returned (.int .i64 1) ∧ Mod [] w w' := by
  by_cases hn : negB q = true
  all_goals try simp only [Bool.not_eq_true] at hn
  all_goals
    go_enter Try.func15, Try.ntmps15
    go_wp2_with (go_at_call 21; refine (negative_any q _).mono ?_; rintro e w1 ⟨rfl, hm1⟩)
    all_goals go_ret
    all_goals exact ⟨rfl, (((Mod.refl _ _).alloc _).nil_then hm1)⟩

set_option maxHeartbeats 1000000 in
theorem Fits_any (p : Int) (q l : Q) (b : Nat) (mo : Option Nat) (f : Int → Q) (w : World) (hM : MeterAt w b mo l f) :
    Calls Try.prog 15 #[.pointer (some ⟨b, 0, none⟩), .int .i64 p, .agg #[.int .i64 q.b, .int .i64 q.o, .int .i64 q.r]] w fun e w' => e = .returned (.int .i64 (fitsE l (f p) q)) ∧ Mod [] w w' := by
  by_cases hn : negB q = true
  · go_enter Try.func15, Try.ntmps15
    go_wp2_with (go_at_call 21; refine (negative_any q _).mono ?_; rintro e w1 ⟨rfl, hm1⟩)
    all_goals go_ret
    all_goals refine ⟨?_, ((Mod.refl _ _).alloc _).nil_then hm1⟩
    simp [fitsE, hn]
  · simp only [Bool.not_eq_true] at hn
    obtain ⟨hl, hf, hb, hmap, hne⟩ := hM
    obtain ⟨r1, hr1⟩ : ∃ r, fitsB (f p).b q.b l.b = r := ⟨_, rfl⟩
    obtain ⟨r2, hr2⟩ : ∃ r, fitsB (f p).o q.o l.o = r := ⟨_, rfl⟩
    obtain ⟨r3, hr3⟩ : ∃ r, fitsB (f p).r q.r l.r = r := ⟨_, rfl⟩
    go_enter Try.func15, Try.ntmps15
    go_wp2_with fail
    refine (negative_any q _).mono ?_
    rintro e w1 ⟨rfl, hm1⟩
    have hb1 := hm1.at (at_alloc_old hb) (by simp)
    have hq1 := hm1.at (at_alloc w _) (by simp)
    have hmap1 := (hmap.keep (fun x hx => RowKit.Below.heap_alloc w (.cells #[.int .i64 q.b, .int .i64 q.o, .int .i64 q.r] 24 (0, 0)) x (hmap.lt x hx))).mod hm1 (by simp)
    have hlk := hmap1.look p
    have hcb := cells_of hb1
    have hcq := cells_of hq1
    go_wp2_with fail
    have hW1 := at_alloc_old (o := Obj.cells #[.int .i64 (f p).b, .int .i64 (f p).o, .int .i64 (f p).r] 24 (0, 0)) hb1
    have hW2 := at_alloc_old (o := Obj.cells #[.int .i64 (f p).b, .int .i64 (f p).o, .int .i64 (f p).r] 24 (0, 0)) hq1
    have hW3 := at_alloc w1 (Obj.cells #[.int .i64 (f p).b, .int .i64 (f p).o, .int .i64 (f p).r] 24 (0, 0))
    have hmW : Mod [] w (w1.alloc (Obj.cells #[.int .i64 (f p).b, .int .i64 (f p).o, .int .i64 (f p).r] 24 (0, 0))) := (((Mod.refl _ _).alloc _).nil_then hm1).alloc _
    generalize w1.alloc (Obj.cells #[.int .i64 (f p).b, .int .i64 (f p).o, .int .i64 (f p).r] 24 (0, 0)) = W at *
    have hk1 := GW.cells (S := []) hW1 (by simp)
    have hk2 := GW.cells (S := []) hW2 (by simp)
    have hk3 := GW.cells (S := []) hW3 (by simp)
    have hfp := hf p
    clear hcb hcq hlk hmap1 hmap hb hf hb1 hq1 hW1 hW2 hW3
    refine wp_region_pure (by kernel_rfl) (by kernel_rfl) ?_
    refine stage_quiet 9 (by kernel_rfl) ?_
    simp only [List.take_succ_cons, List.take_zero, List.drop_succ_cons, List.drop_zero]
    repeat (go_big_quiet_step (fail))
    refine wpQuiet_nil ?_
    refine stage_pure 23 _ (.bool r1) rfl Try.call23 rfl rfl (fun w' _ => (fits_any (f p).b q.b l.b w' hfp.1.1 hfp.1.2 hl.1.1 hl.1.2).mono fun e w'' ⟨he, hm⟩ => ⟨by rw [he, hr1], hm⟩) ?_
    simp only [Act.put, List.setIfInBounds_toArray, List.set_cons_succ, List.set_cons_zero]
    cases r1
    all_goals
      refine stage_quiet 11 (by kernel_rfl) ?_
      simp only [List.take_succ_cons, List.take_zero, List.drop_succ_cons, List.drop_zero]
      repeat (go_big_quiet_step (fail))
      refine wpQuiet_nil ?_
    · refine stage_skip rfl ?_
      simp only [Act.put, List.setIfInBounds_toArray, List.set_cons_succ, List.set_cons_zero]
      refine stage_quiet 12 (by kernel_rfl) ?_
      simp only [List.take_succ_cons, List.take_zero, List.drop_succ_cons, List.drop_zero]
      repeat (go_big_quiet_step (fail))
      refine wpQuiet_nil ?_
      refine stage_skip rfl ?_
      simp only [Act.put, List.setIfInBounds_toArray, List.set_cons_succ, List.set_cons_zero]
      refine stage_quiet 2 (by kernel_rfl) ?_
      simp only [List.take_succ_cons, List.take_zero, List.drop_succ_cons, List.drop_zero]
      repeat (go_big_quiet_step (fail))
      refine wpQuiet_nil ?_
      refine stage_nil fun w2 hm2 => ?_
      go_wp2
      go_ret
      exact ⟨by simp [fitsE, hn, hr1], hmW.nil_then hm2⟩
    · refine stage_pure 23 _ (.bool r2) rfl Try.call23 rfl rfl (fun w' _ => (fits_any (f p).o q.o l.o w' hfp.2.1.1 hfp.2.1.2 hl.2.1.1 hl.2.1.2).mono fun e w'' ⟨he, hm⟩ => ⟨by rw [he, hr2], hm⟩) ?_
      simp only [Act.put, List.setIfInBounds_toArray, List.set_cons_succ, List.set_cons_zero]
      cases r2
      all_goals
        refine stage_quiet 12 (by kernel_rfl) ?_
        simp only [List.take_succ_cons, List.take_zero, List.drop_succ_cons, List.drop_zero]
        repeat (go_big_quiet_step (fail))
        refine wpQuiet_nil ?_
      · refine stage_skip rfl ?_
        simp only [Act.put, List.setIfInBounds_toArray, List.set_cons_succ, List.set_cons_zero]
        refine stage_quiet 2 (by kernel_rfl) ?_
        simp only [List.take_succ_cons, List.take_zero, List.drop_succ_cons, List.drop_zero]
        repeat (go_big_quiet_step (fail))
        refine wpQuiet_nil ?_
        refine stage_nil fun w2 hm2 => ?_
        go_wp2
        go_ret
        exact ⟨by simp [fitsE, hn, hr2], hmW.nil_then hm2⟩
      · refine stage_pure 23 _ (.bool r3) rfl Try.call23 rfl rfl (fun w' _ => (fits_any (f p).r q.r l.r w' hfp.2.2.1 hfp.2.2.2 hl.2.2.1 hl.2.2.2).mono fun e w'' ⟨he, hm⟩ => ⟨by rw [he, hr3], hm⟩) ?_
        simp only [Act.put, List.setIfInBounds_toArray, List.set_cons_succ, List.set_cons_zero]
        cases r3
        all_goals
          refine stage_quiet 2 (by kernel_rfl) ?_
          simp only [List.take_succ_cons, List.take_zero, List.drop_succ_cons, List.drop_zero]
          repeat (go_big_quiet_step (fail))
          refine wpQuiet_nil ?_
          refine stage_nil fun w2 hm2 => ?_
          go_wp2
          go_ret
        · exact ⟨by simp [fitsE, hn, hr3], hmW.nil_then hm2⟩
        · exact ⟨by simp [fitsE, hn, hr1, hr2, hr3], hmW.nil_then hm2⟩

theorem Get_nil (p : Int) (w : World) :
    Calls Try.prog 11 #[.pointer none, .int .i64 p] w fun e w' => e = .returned (.agg #[.int .i64 0, .int .i64 0, .int .i64 0]) ∧ Mod [] w w' := by
  go_enter Try.func11, Try.ntmps11
  go_wp2
  exact bodyPost_ret (v := .agg #[.int .i64 0, .int .i64 0, .int .i64 0]) (by simp [results, Try.results11, go_sem]) rfl ⟨rfl, (Mod.refl _ _).alloc _⟩

theorem Get_any (p : Int) (l : Q) (b : Nat) (mo : Option Nat) (f : Int → Q) (w : World) (hM : MeterAt w b mo l f) :
    Calls Try.prog 11 #[.pointer (some ⟨b, 0, none⟩), .int .i64 p] w fun e w' => e = .returned (.agg #[.int .i64 (f p).b, .int .i64 (f p).o, .int .i64 (f p).r]) ∧ Mod [] w w' := by
  obtain ⟨hl, hf, hb, hmap, hne⟩ := hM
  have hlb := lt_of hb
  have hcb := cells_of hb
  have hmap1 := hmap.keep (fun x hx => RowKit.Below.heap_alloc w (.cells #[.int .i64 0, .int .i64 0, .int .i64 0] 24 (0, 0)) x (hmap.lt x hx))
  have hlk := hmap1.look p
  clear hf hl hmap hmap1
  go_enter Try.func11, Try.ntmps11
  go_wp2
  exact bodyPost_ret (v := .agg #[.int .i64 (f p).b, .int .i64 (f p).o, .int .i64 (f p).r]) (by simp [results, Try.results11, go_sem]) rfl ⟨rfl, by repeat (first | exact Mod.refl _ _ | (refine Mod.setCell ?_ (.inr (by simp)) _) | refine Mod.alloc ?_ _)⟩
end Go.Proofs.Ytbjjeacdgbppoaa
