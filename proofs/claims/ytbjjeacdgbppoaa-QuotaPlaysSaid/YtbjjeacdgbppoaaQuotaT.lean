/- The definition's meter: Fits, Add, Sub and Reset. -/
import Derived.Test.YtbjjeacdgbppoaaQuotaS
import Derived.Test.YtbjjeacdgbppoaaQuotaC
namespace Go.Proofs.Ytbjjeacdgbppoaa
open Go Go.RowKit Go.Stg

theorem RReset_any (p : Int) (l : Q) (b : Nat) (sv : Value) (L : List (Int × Q)) (w : World) (hR : RAt w b sv l L) (hlen : L.length < 1000000) :
    Calls Try.prog 20 #[.pointer (some ⟨b, 0, none⟩), .int .i64 p] w (RChanged (.tuple #[]) b l (rset p Q.zero L) w) := by
  have H := Lib.hid (Rset_any p Q.zero l b sv L w hR hlen)
  clear hR
  go_enter Try.func20, Try.ntmps20
  go_wp2_with (go_at_call 25; refine H.out.mono ?_; rintro e w1 ⟨sv1, rfl, h1, h2, h3⟩)
  go_end0
  exact ⟨sv1, rfl, h1, h2, h3⟩

set_option maxHeartbeats 1000000 in
theorem RFits_any (p : Int) (q l : Q) (b : Nat) (sv : Value) (L : List (Int × Q)) (w : World) (hR : RAt w b sv l L) (hpos : (rget p L).pos) (hqi : q.i64) :
    Calls Try.prog 16 #[.pointer (some ⟨b, 0, none⟩), .int .i64 p, .agg #[.int .i64 q.b, .int .i64 q.o, .int .i64 q.r]] w fun e w' => e = .returned (.int .i64 (fitsE l (rget p L) q)) ∧ Mod [] w w' := by
  have hR1 := hR.mod ((Mod.refl [] w).alloc (.cells #[.int .i64 q.b, .int .i64 q.o, .int .i64 q.r] 24 (0, 0))) (by simp)
  have H := Lib.hid (RGet_any p l b sv L _ hR1)
  obtain ⟨hl, hb, _, _, _⟩ := hR
  clear hR1
  obtain ⟨x, hx⟩ : ∃ x, rget p L = x := ⟨_, rfl⟩
  rw [hx] at H hpos ⊢
  clear hx
  by_cases hn : negB q = true
  · have hn' := hn
    simp only [negB, Bool.or_eq_true, decide_eq_true_eq] at hn'
    go_enter Try.func16, Try.ntmps16
    go_wp2
    all_goals go_ret
    all_goals exact ⟨by simp [fitsE, hn], (Mod.refl _ _).alloc _⟩
  · have hn' := hn
    simp only [negB, Bool.or_eq_true, decide_eq_true_eq, not_or, Int.not_lt] at hn'
    obtain ⟨⟨n1, n2⟩, n3⟩ := hn'
    obtain ⟨⟨_, m1⟩, ⟨_, m2⟩, _, m3⟩ := hqi
    obtain ⟨r1, hr1⟩ : ∃ r, fitsB x.b q.b l.b = r := ⟨_, rfl⟩
    obtain ⟨r2, hr2⟩ : ∃ r, fitsB x.o q.o l.o = r := ⟨_, rfl⟩
    obtain ⟨r3, hr3⟩ : ∃ r, fitsB x.r q.r l.r = r := ⟨_, rfl⟩
    go_enter Try.func16, Try.ntmps16
    go_wp2_with fail
    refine H.out.mono ?_
    rintro e w1 ⟨rfl, hm1⟩
    have hb1 := hm1.at (at_alloc_old hb) (by simp)
    have hq1 := hm1.at (at_alloc w _) (by simp)
    go_wp2_with fail
    have hW1 := at_alloc_old (o := Obj.cells #[.int .i64 x.b, .int .i64 x.o, .int .i64 x.r] 24 (0, 0)) hb1
    have hW2 := at_alloc_old (o := Obj.cells #[.int .i64 x.b, .int .i64 x.o, .int .i64 x.r] 24 (0, 0)) hq1
    have hW3 := at_alloc w1 (Obj.cells #[.int .i64 x.b, .int .i64 x.o, .int .i64 x.r] 24 (0, 0))
    have hmW : Mod [] w (w1.alloc (Obj.cells #[.int .i64 x.b, .int .i64 x.o, .int .i64 x.r] 24 (0, 0))) := (((Mod.refl _ _).alloc _).nil_then hm1).alloc _
    generalize w1.alloc (Obj.cells #[.int .i64 x.b, .int .i64 x.o, .int .i64 x.r] 24 (0, 0)) = W at *
    have hk1 := GW.cells (S := []) hW1 (by simp)
    have hk2 := GW.cells (S := []) hW2 (by simp)
    have hk3 := GW.cells (S := []) hW3 (by simp)
    clear hb hb1 hq1 hW1 hW2 hW3
    obtain ⟨⟨x1, x2⟩, ⟨x3, x4⟩, x5, x6⟩ := hpos
    have hcase : (l.b < 0 ∨ (0 ≤ l.b ∧ l.o < 0) ∨ (0 ≤ l.b ∧ 0 ≤ l.o ∧ l.r < 0)) ∨ (0 ≤ l.b ∧ 0 ≤ l.o ∧ 0 ≤ l.r) := by omega
    have hfn : (l.b < 0 ∨ (0 ≤ l.b ∧ l.o < 0) ∨ (0 ≤ l.b ∧ 0 ≤ l.o ∧ l.r < 0)) → fitsE l x q = 16 := by
      intro h
      unfold fitsE fitsB
      rw [if_neg hn, if_neg]
      simp only [Bool.and_eq_true, decide_eq_true_eq]
      omega
    refine wp_region_pure (by kernel_rfl) (by kernel_rfl) ?_
    rcases hcase with hneg | ⟨l1, l2, l3⟩
    · have HF := Lib.hid (hfn hneg)
      clear hfn
      have hd : (decide (l.b < 0) = true) ∨ (decide (l.b < 0) = false ∧ decide (l.o < 0) = true) ∨ (decide (l.b < 0) = false ∧ decide (l.o < 0) = false ∧ decide (l.r < 0) = true) := by
        simp only [decide_eq_true_eq, decide_eq_false_iff_not]; omega
      clear hneg
      rcases hd with d1 | ⟨d1, d2⟩ | ⟨d1, d2, d3⟩
      all_goals
        refine stage_quiet 32 (by kernel_rfl) ?_
        simp only [List.take_succ_cons, List.take_zero, List.drop_succ_cons, List.drop_zero]
        repeat (go_big_quiet_step (fail))
        refine wpQuiet_nil ?_
        refine stage_skip rfl ?_
        simp only [Act.put, List.setIfInBounds_toArray, List.set_cons_succ, List.set_cons_zero]
        refine stage_quiet 11 (by kernel_rfl) ?_
        simp only [List.take_succ_cons, List.take_zero, List.drop_succ_cons, List.drop_zero]
        repeat (go_big_quiet_step (fail))
        refine wpQuiet_nil ?_
        refine stage_skip rfl ?_
        simp only [Act.put, List.setIfInBounds_toArray, List.set_cons_succ, List.set_cons_zero]
        refine stage_quiet 11 (by kernel_rfl) ?_
        simp only [List.take_succ_cons, List.take_zero, List.drop_succ_cons, List.drop_zero]
        repeat (go_big_quiet_step (fail))
        refine wpQuiet_nil ?_
        refine stage_skip rfl ?_
        simp only [Act.put, List.setIfInBounds_toArray, List.set_cons_succ, List.set_cons_zero]
        refine stage_quiet 1 (by kernel_rfl) ?_
        simp only [List.take_succ_cons, List.take_zero, List.drop_succ_cons, List.drop_zero]
        repeat (go_big_quiet_step (fail))
        refine wpQuiet_nil ?_
        refine stage_nil fun w2 hm2 => ?_
        go_wp2
        go_ret
        exact ⟨by rw [HF.out]; rfl, hmW.nil_then hm2⟩
    · clear hfn
      obtain ⟨hl1, hl2, hl3⟩ := hl
      have d1 : decide (l.b < 0) = false := by simp; omega
      have d2 : decide (l.o < 0) = false := by simp; omega
      have d3 : decide (l.r < 0) = false := by simp; omega
      refine stage_quiet 32 (by kernel_rfl) ?_
      simp only [List.take_succ_cons, List.take_zero, List.drop_succ_cons, List.drop_zero]
      repeat (go_big_quiet_step (fail))
      refine wpQuiet_nil ?_
      refine stage_pure 24 _ (.bool (!r1)) rfl Try.call24 rfl rfl (fun w' _ => (exceeds_any x.b q.b l.b w' x1 n1 (by omega) l1 hl1.2).mono fun e w'' ⟨he, hm⟩ => ⟨by rw [he, hr1], hm⟩) ?_
      simp only [Act.put, List.setIfInBounds_toArray, List.set_cons_succ, List.set_cons_zero]
      cases r1
      all_goals
        refine stage_quiet 11 (by kernel_rfl) ?_
        simp only [List.take_succ_cons, List.take_zero, List.drop_succ_cons, List.drop_zero]
        repeat (go_big_quiet_step (fail))
        refine wpQuiet_nil ?_
      · refine stage_skip rfl ?_
        simp only [Act.put, List.setIfInBounds_toArray, List.set_cons_succ, List.set_cons_zero]
        refine stage_quiet 11 (by kernel_rfl) ?_
        simp only [List.take_succ_cons, List.take_zero, List.drop_succ_cons, List.drop_zero]
        repeat (go_big_quiet_step (fail))
        refine wpQuiet_nil ?_
        refine stage_skip rfl ?_
        simp only [Act.put, List.setIfInBounds_toArray, List.set_cons_succ, List.set_cons_zero]
        refine stage_quiet 1 (by kernel_rfl) ?_
        simp only [List.take_succ_cons, List.take_zero, List.drop_succ_cons, List.drop_zero]
        repeat (go_big_quiet_step (fail))
        refine wpQuiet_nil ?_
        refine stage_nil fun w2 hm2 => ?_
        go_wp2
        go_ret
        exact ⟨by simp [fitsE, hn, hr1], hmW.nil_then hm2⟩
      · refine stage_pure 24 _ (.bool (!r2)) rfl Try.call24 rfl rfl (fun w' _ => (exceeds_any x.o q.o l.o w' x3 n2 (by omega) l2 hl2.2).mono fun e w'' ⟨he, hm⟩ => ⟨by rw [he, hr2], hm⟩) ?_
        simp only [Act.put, List.setIfInBounds_toArray, List.set_cons_succ, List.set_cons_zero]
        cases r2
        all_goals
          refine stage_quiet 11 (by kernel_rfl) ?_
          simp only [List.take_succ_cons, List.take_zero, List.drop_succ_cons, List.drop_zero]
          repeat (go_big_quiet_step (fail))
          refine wpQuiet_nil ?_
        · refine stage_skip rfl ?_
          simp only [Act.put, List.setIfInBounds_toArray, List.set_cons_succ, List.set_cons_zero]
          refine stage_quiet 1 (by kernel_rfl) ?_
          simp only [List.take_succ_cons, List.take_zero, List.drop_succ_cons, List.drop_zero]
          repeat (go_big_quiet_step (fail))
          refine wpQuiet_nil ?_
          refine stage_nil fun w2 hm2 => ?_
          go_wp2
          go_ret
          exact ⟨by simp [fitsE, hn, hr2], hmW.nil_then hm2⟩
        · refine stage_pure 24 _ (.bool (!r3)) rfl Try.call24 rfl rfl (fun w' _ => (exceeds_any x.r q.r l.r w' x5 n3 (by omega) l3 hl3.2).mono fun e w'' ⟨he, hm⟩ => ⟨by rw [he, hr3], hm⟩) ?_
          simp only [Act.put, List.setIfInBounds_toArray, List.set_cons_succ, List.set_cons_zero]
          cases r3
          all_goals
            refine stage_quiet 1 (by kernel_rfl) ?_
            simp only [List.take_succ_cons, List.take_zero, List.drop_succ_cons, List.drop_zero]
            repeat (go_big_quiet_step (fail))
            refine wpQuiet_nil ?_
            refine stage_nil fun w2 hm2 => ?_
            go_wp2
            go_ret
          · exact ⟨by simp [fitsE, hn, hr3], hmW.nil_then hm2⟩
          · exact ⟨by simp [fitsE, hn, hr1, hr2, hr3], hmW.nil_then hm2⟩
end Go.Proofs.Ytbjjeacdgbppoaa
