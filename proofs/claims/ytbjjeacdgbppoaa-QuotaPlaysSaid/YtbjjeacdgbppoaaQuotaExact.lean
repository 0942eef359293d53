/- QuotaExact returns true whatever its arguments: the walk. -/
import Derived.Test.YtbjjeacdgbppoaaQuotaL
namespace Go.Proofs.Ytbjjeacdgbppoaa
open Go Go.RowKit Go.Stg

structure X3 where
  a : Int
  b : Int
  c : Int
def X3.ok (x : X3) : Prop := (0 ≤ x.a ∧ x.a ≤ 255) ∧ (0 ≤ x.b ∧ x.b ≤ 255) ∧ (0 ≤ x.c ∧ x.c ≤ 255)
def x3v (x : X3) : Value := .agg #[.int .u8 x.a, .int .u8 x.b, .int .u8 x.c]

theorem fits_not {l x a : Q} (ha : a.pos) (h : ¬ (x.b + a.b ≤ l.b ∧ x.o + a.o ≤ l.o ∧ x.r + a.r ≤ l.r)) : fitsE l x a = 16 := by
  obtain ⟨⟨a1, _⟩, ⟨a2, _⟩, a3, _⟩ := ha
  have hn : ¬ negB a = true := by simp [negB]; omega
  unfold fitsE
  rw [if_neg hn, if_neg]
  simp only [fitsB, Bool.and_eq_true, decide_eq_true_eq]
  omega
theorem fits_yes {l x a : Q} (ha : a.pos) (h : x.b + a.b ≤ l.b ∧ x.o + a.o ≤ l.o ∧ x.r + a.r ≤ l.r) : fitsE l x a = 0 := by
  obtain ⟨⟨a1, _⟩, ⟨a2, _⟩, a3, _⟩ := ha
  have hn : ¬ negB a = true := by simp [negB]; omega
  unfold fitsE
  rw [if_neg hn, if_pos]
  simp only [fitsB, Bool.and_eq_true, decide_eq_true_eq]
  omega

set_option maxHeartbeats 4000000 in
theorem exact_walk (l a c : X3) (hl : l.ok) (ha : a.ok) (hc : c.ok) (w : World) :
    Calls Try.prog 3 #[.agg #[.int .u8 l.a, .int .u8 l.b, .int .u8 l.c], .agg #[.int .u8 a.a, .int .u8 a.b, .int .u8 a.c], .agg #[.int .u8 c.a, .int .u8 c.b, .int .u8 c.c]] w fun e w' => e = .returned (.bool true) ∧ Mod [] w w' := by
  obtain ⟨⟨l1, l2⟩, ⟨l3, l4⟩, l5, l6⟩ := hl
  obtain ⟨⟨a1, a2⟩, ⟨a3, a4⟩, a5, a6⟩ := ha
  obtain ⟨⟨c1, c2⟩, ⟨c3, c4⟩, c5, c6⟩ := hc
  have hli : Q.i64 ⟨l.a, l.b, l.c⟩ := by simp only [Q.i64]; omega
  have hap : Q.pos ⟨a.a, a.b, a.c⟩ := by simp only [Q.pos]; omega
  have hcp : Q.pos ⟨c.a, c.b, c.c⟩ := by simp only [Q.pos]; omega
  go_enter Try.func3, Try.ntmps3
  go_wp2_with fail
  refine (New_any ⟨l.a, l.b, l.c⟩ _ hli).mono ?_
  rintro e w1 ⟨b, rfl, hm1, hb, hM⟩
  have hmw := (((((Mod.refl [] w).alloc (.cells #[.int .u8 l.a, .int .u8 l.b, .int .u8 l.c] 22 (0, 0))).alloc (.cells #[.int .u8 a.a, .int .u8 a.b, .int .u8 a.c] 22 (0, 0))).alloc (.cells #[.int .u8 c.a, .int .u8 c.b, .int .u8 c.c] 22 (0, 0))).alloc (.cells #[.int .i64 l.a, .int .i64 l.b, .int .i64 l.c] 24 (0, 0))).nil_then hm1
  have k1 := hm1.at (at_alloc_old (at_alloc_old (at_alloc (w.alloc (.cells #[.int .u8 l.a, .int .u8 l.b, .int .u8 l.c] 22 (0, 0))) (.cells #[.int .u8 a.a, .int .u8 a.b, .int .u8 a.c] 22 (0, 0))))) (by simp)
  have k2 := hm1.at (at_alloc_old (at_alloc ((w.alloc (.cells #[.int .u8 l.a, .int .u8 l.b, .int .u8 l.c] 22 (0, 0))).alloc (.cells #[.int .u8 a.a, .int .u8 a.b, .int .u8 a.c] 22 (0, 0))) (.cells #[.int .u8 c.a, .int .u8 c.b, .int .u8 c.c] 22 (0, 0)))) (by simp)
  have k3 := hm1.at (at_alloc (((w.alloc (.cells #[.int .u8 l.a, .int .u8 l.b, .int .u8 l.c] 22 (0, 0))).alloc (.cells #[.int .u8 a.a, .int .u8 a.b, .int .u8 a.c] 22 (0, 0))).alloc (.cells #[.int .u8 c.a, .int .u8 c.b, .int .u8 c.c] 22 (0, 0))) (.cells #[.int .i64 l.a, .int .i64 l.b, .int .i64 l.c] 24 (0, 0))) (by simp)
  simp only [World.size_alloc] at k1 k2 k3 hb
  have hsz := hm1.gt
  simp only [World.size_alloc] at hsz
  have z1 : w.heap.size + 1 < w1.heap.size := by omega
  have z2 : w.heap.size + 1 + 1 < w1.heap.size := by omega
  have j1 := cells_of k1
  have j2 := cells_of k2
  clear hm1
  go_wp2_with fail
  have v1 := at_alloc w1 (.cells #[.int .i64 a.a, .int .i64 a.b, .int .i64 a.c] 24 (0, 0))
  have v2 := at_alloc (w1.alloc (.cells #[.int .i64 a.a, .int .i64 a.b, .int .i64 a.c] 24 (0, 0))) (.cells #[.int .i64 c.a, .int .i64 c.b, .int .i64 c.c] 24 (0, 0))
  simp only [World.size_alloc] at v2
  have v1 := at_alloc_old (o := .cells #[.int .i64 c.a, .int .i64 c.b, .int .i64 c.c] 24 (0, 0)) v1
  have v3 := at_alloc_old (o := .cells #[.int .i64 c.a, .int .i64 c.b, .int .i64 c.c] 24 (0, 0)) (at_alloc_old (o := .cells #[.int .i64 a.a, .int .i64 a.b, .int .i64 a.c] 24 (0, 0)) k3)
  have hlb := lt_of hM.blk
  have hO : One [b] ((w1.alloc (.cells #[.int .i64 a.a, .int .i64 a.b, .int .i64 a.c] 24 (0, 0))).alloc (.cells #[.int .i64 c.a, .int .i64 c.b, .int .i64 c.c] 24 (0, 0))) b ⟨l.a, l.b, l.c⟩ (fun _ => Q.zero) ((w1.alloc (.cells #[.int .i64 a.a, .int .i64 a.b, .int .i64 a.c] 24 (0, 0))).alloc (.cells #[.int .i64 c.a, .int .i64 c.b, .int .i64 c.c] 24 (0, 0))) :=
    ⟨none, Mod.refl _ _, hM.mod (((Mod.refl [] _).alloc _).alloc _) (by simp), by simp, by simp⟩
  have hmv := (hmw.alloc (.cells #[.int .i64 a.a, .int .i64 a.b, .int .i64 a.c] 24 (0, 0))).alloc (.cells #[.int .i64 c.a, .int .i64 c.b, .int .i64 c.c] 24 (0, 0))
  have hm1s := hb
  have hVsz : ((w1.alloc (.cells #[.int .i64 a.a, .int .i64 a.b, .int .i64 a.c] 24 (0, 0))).alloc (.cells #[.int .i64 c.a, .int .i64 c.b, .int .i64 c.c] 24 (0, 0))).heap.size = w1.heap.size + 1 + 1 := by simp
  clear hM hmw k1 k2 k3 j1 j2
  generalize (w1.alloc (.cells #[.int .i64 a.a, .int .i64 a.b, .int .i64 a.c] 24 (0, 0))).alloc (.cells #[.int .i64 c.a, .int .i64 c.b, .int .i64 c.c] 24 (0, 0)) = V at *
  refine (One_Add hO 1 ⟨a.a, a.b, a.c⟩).mono ?_
  rintro e w2 ⟨rfl, hO2⟩
  have g1 := hO2.mod.at v1 (by simp; omega)
  have g2 := hO2.mod.at v2 (by simp; omega)
  have g3 := hO2.mod.at v3 (by simp; omega)
  have y1 := lt_of g1
  have y2 := lt_of g2
  have y3 := lt_of g3
  clear hO v1 v2 v3
  by_cases hf : a.a ≤ l.a ∧ a.b ≤ l.b ∧ a.c ≤ l.c
  · have hz : fitsE ⟨l.a, l.b, l.c⟩ Q.zero ⟨a.a, a.b, a.c⟩ = 0 := fits_yes hap (by simp only [Q.zero]; omega)
    have hf1 : addF ⟨l.a, l.b, l.c⟩ (fun _ => Q.zero) 1 ⟨a.a, a.b, a.c⟩ 1 = ⟨a.a, a.b, a.c⟩ := by unfold addF; rw [if_pos (by exact hz)]; simp [upd, Q.add, Q.zero]
    rw [hz]
    clear hz
    generalize addF ⟨l.a, l.b, l.c⟩ (fun _ => Q.zero) 1 ⟨a.a, a.b, a.c⟩ = f1 at *
    obtain ⟨f2, f3, f4⟩ := hf
    have j1 := cells_of g1
    have j2 := cells_of g2
    have j3 := cells_of g3
    have HF1 := Lib.hid hf1
    clear hf1
    go_wp2_with fail
    obtain ⟨S1, hS1, hB1⟩ := hO2.base
    have hB2 := hB1 [] _ ((Mod.refl [] _).alloc (.cells #[.int .i64 (a.a + c.a), .int .i64 (a.b + c.b), .int .i64 (a.c + c.c)] 24 (0, 0))) (by simp)
    have hm2 := (hmv.then hO2.mod (by simp; omega)).alloc (.cells #[.int .i64 (a.a + c.a), .int .i64 (a.b + c.b), .int .i64 (a.c + c.c)] 24 (0, 0))
    have gs := at_alloc w2 (.cells #[.int .i64 (a.a + c.a), .int .i64 (a.b + c.b), .int .i64 (a.c + c.c)] 24 (0, 0))
    have g3 := at_alloc_old (o := .cells #[.int .i64 (a.a + c.a), .int .i64 (a.b + c.b), .int .i64 (a.c + c.c)] 24 (0, 0)) g3
    have g1 := at_alloc_old (o := .cells #[.int .i64 (a.a + c.a), .int .i64 (a.b + c.b), .int .i64 (a.c + c.c)] 24 (0, 0)) g1
    have hns : w2.heap.size ∉ S1 := fun h => by have := (hS1 _ h).1; omega
    have hnl : ∀ x, x < V.heap.size → w.heap.size ≤ x → x ≠ b → x ∉ S1 := fun x h1 h2 h3 h => by
      rcases (hS1 _ h).2 with h | h
      · simp at h; exact h3 h
      · omega
    have hS1w : ∀ x, x ∈ S1 → w.heap.size ≤ x := fun x h => by
      have := hm1s
      rcases (hS1 _ h).2 with h | h
      · simp at h; omega
      · omega
    clear j1 j2 j3 g2 hO2 hB1
    generalize w2.alloc (.cells #[.int .i64 (a.a + c.a), .int .i64 (a.b + c.b), .int .i64 (a.c + c.c)] 24 (0, 0)) = W2 at *
    refine (One_Add hB2 1 ⟨c.a, c.b, c.c⟩).mono ?_
    rintro e w5 ⟨rfl, hO5⟩
    have p3 := hO5.mod.at g3 (hnl _ (by omega) (by omega) (by omega))
    have p1 := hO5.mod.at g1 (hnl _ (by omega) (by omega) (by omega))
    have ps := hO5.mod.at gs hns
    have hm5 := hm2.then hO5.mod (fun x hx => .inr (hS1w x hx))
    have j3 := cells_of p3
    have j1 := cells_of p1
    have js := cells_of ps
    have jf := frozen_of ps
    clear hm2 hS1w hnl hS1
    by_cases hz : a.a + c.a ≤ l.a ∧ a.b + c.b ≤ l.b ∧ a.c + c.c ≤ l.c
    · have hz0 : fitsE ⟨l.a, l.b, l.c⟩ (f1 1) ⟨c.a, c.b, c.c⟩ = 0 := by rw [HF1.out]; exact fits_yes hcp hz
      have hv : addF ⟨l.a, l.b, l.c⟩ f1 1 ⟨c.a, c.b, c.c⟩ 1 = ⟨a.a + c.a, a.b + c.b, a.c + c.c⟩ := by unfold addF; rw [if_pos hz0, HF1.out]; simp [upd, Q.add]
      rw [hz0]
      clear hz0
      obtain ⟨t1, t2, t3⟩ := hz
      generalize addF ⟨l.a, l.b, l.c⟩ f1 1 ⟨c.a, c.b, c.c⟩ = f5 at *
      have HV := Lib.hid hv
      clear hv
      go_wp2_with fail
      clear j1 j3 js jf
      have hk := GW.cells (S := []) ps (by simp)
      refine wp_region_pure (by kernel_rfl) (by kernel_rfl) ?_
      refine stage_pure 10 _ (.bool true) rfl Try.call10 rfl rfl (fun w' _ => awake_any w') ?_
      simp only [Act.put, List.setIfInBounds_toArray, List.set_cons_succ, List.set_cons_zero]
      refine stage_quiet 15 (by kernel_rfl) ?_
      simp only [List.take_succ_cons, List.take_zero, List.drop_succ_cons, List.drop_zero]
      repeat (go_big_quiet_step (fail))
      refine wpQuiet_nil ?_
      refine stage_pure 11 _ (.agg #[.int .i64 (a.a + c.a), .int .i64 (a.b + c.b), .int .i64 (a.c + c.c)]) rfl Try.call11 rfl rfl (fun w' h => ?_) ?_
      · obtain ⟨mo, _, hM, _⟩ := hO5.then h
        refine (Get_any 1 _ b mo f5 w' hM).mono ?_
        rw [HV.out]
        exact fun _ _ h => h
      simp only [Act.put, List.setIfInBounds_toArray, List.set_cons_succ, List.set_cons_zero]
      refine stage_quiet 4 (by kernel_rfl) ?_
      simp only [List.take_succ_cons, List.take_zero, List.drop_succ_cons, List.drop_zero]
      repeat (go_big_quiet_step (fail))
      refine wpQuiet_nil ?_
      refine stage_nil fun w6 hm6 => ?_
      go_wp2
      go_ret
      exact ⟨rfl, hm5.nil_then hm6⟩
    · have hz0 : fitsE ⟨l.a, l.b, l.c⟩ (f1 1) ⟨c.a, c.b, c.c⟩ = 16 := by rw [HF1.out]; exact fits_not hcp hz
      have hv : addF ⟨l.a, l.b, l.c⟩ f1 1 ⟨c.a, c.b, c.c⟩ 1 = ⟨a.a, a.b, a.c⟩ := by unfold addF; rw [if_neg (by rw [hz0]; decide), HF1.out]
      rw [hz0]
      clear hz0
      generalize addF ⟨l.a, l.b, l.c⟩ f1 1 ⟨c.a, c.b, c.c⟩ = f5 at *
      have HV := Lib.hid hv
      clear hv
      have hcase : (decide (a.a + c.a ≤ l.a) = false) ∨ (decide (a.a + c.a ≤ l.a) = true ∧ decide (a.b + c.b ≤ l.b) = false) ∨ (decide (a.a + c.a ≤ l.a) = true ∧ decide (a.b + c.b ≤ l.b) = true ∧ decide (a.c + c.c ≤ l.c) = false) := by
        simp only [decide_eq_true_eq, decide_eq_false_iff_not]; omega
      clear hz
      rcases hcase with t1 | ⟨t1, t2⟩ | ⟨t1, t2, t3⟩
      all_goals
        go_wp2_with fail
        obtain ⟨S5, hS5, hB5⟩ := hO5.base
        have hn5 : w2.heap.size ∉ S5 := fun h => by
          rcases (hS5 _ h).2 with h | h
          · exact hns h
          · have := lt_of gs; omega
        have hm7 := ((hm5.setCell (p := ⟨w2.heap.size, 0, none⟩) (.inr (by simp; omega)) (.int .i64 a.a)).setCell (p := ⟨w2.heap.size, 1, none⟩) (.inr (by simp; omega)) (.int .i64 a.b)).setCell (p := ⟨w2.heap.size, 2, none⟩) (.inr (by simp; omega)) (.int .i64 a.c)
        have hB7 := hB5 [w2.heap.size] _ ((((Mod.refl [w2.heap.size] w5).setCell (p := ⟨w2.heap.size, 0, none⟩) (.inl (by simp)) (.int .i64 a.a)).setCell (p := ⟨w2.heap.size, 1, none⟩) (.inl (by simp)) (.int .i64 a.b)).setCell (p := ⟨w2.heap.size, 2, none⟩) (.inl (by simp)) (.int .i64 a.c)) (by intro x hx e; simp at e; subst e; exact hn5 hx)
        have ps7 := at_setCell (o := 2) (v := .int .i64 a.c) (at_setCell (o := 1) (v := .int .i64 a.b) (at_setCell (o := 0) (v := .int .i64 a.a) ps))
        generalize (((w5.setCell ⟨w2.heap.size, 0, none⟩ (.int .i64 a.a)).setCell ⟨w2.heap.size, 1, none⟩ (.int .i64 a.b)).setCell ⟨w2.heap.size, 2, none⟩ (.int .i64 a.c)) = W7 at *
        clear j1 j3 js jf
        have hk : ∀ (x : GW [] W7) o, x.1.cell? ⟨w2.heap.size, o, none⟩ = #[.int .i64 a.a, .int .i64 a.b, .int .i64 a.c][o]? := GW.cells (S := []) ps7 (by simp)
        refine wp_region_pure (by kernel_rfl) (by kernel_rfl) ?_
        refine stage_pure 10 _ (.bool true) rfl Try.call10 rfl rfl (fun w' _ => awake_any w') ?_
        simp only [Act.put, List.setIfInBounds_toArray, List.set_cons_succ, List.set_cons_zero]
        refine stage_quiet 15 (by kernel_rfl) ?_
        simp only [List.take_succ_cons, List.take_zero, List.drop_succ_cons, List.drop_zero]
        repeat (go_big_quiet_step (fail))
        refine wpQuiet_nil ?_
        refine stage_pure 11 _ (.agg #[.int .i64 a.a, .int .i64 a.b, .int .i64 a.c]) rfl Try.call11 rfl rfl (fun w' h => ?_) ?_
        · obtain ⟨mo, _, hM, _⟩ := hB7.then h
          refine (Get_any 1 _ b mo f5 w' hM).mono ?_
          rw [HV.out]
          exact fun _ _ h => h
        simp only [Act.put, List.setIfInBounds_toArray, List.set_cons_succ, List.set_cons_zero]
        refine stage_quiet 4 (by kernel_rfl) ?_
        simp only [List.take_succ_cons, List.take_zero, List.drop_succ_cons, List.drop_zero]
        repeat (go_big_quiet_step (fail))
        refine wpQuiet_nil ?_
        refine stage_nil fun w6 hm6 => ?_
        go_wp2
        go_ret
        exact ⟨rfl, hm7.nil_then hm6⟩
  · have hz : fitsE ⟨l.a, l.b, l.c⟩ Q.zero ⟨a.a, a.b, a.c⟩ = 16 := fits_not hap (by simp only [Q.zero]; omega)
    rw [hz]
    have hf1 : addF ⟨l.a, l.b, l.c⟩ (fun _ => Q.zero) 1 ⟨a.a, a.b, a.c⟩ = (fun _ => Q.zero) := by unfold addF; rw [if_neg (by rw [hz]; decide)]
    rw [hf1] at hO2
    clear hf1 hz
    have hcase : l.a < a.a ∨ (a.a ≤ l.a ∧ l.b < a.b) ∨ (a.a ≤ l.a ∧ a.b ≤ l.b ∧ l.c < a.c) := by omega
    have j1 := cells_of g1
    have j3 := cells_of g3
    clear hf
    rcases hcase with f1 | ⟨f1, f2⟩ | ⟨f1, f2, f3⟩
    all_goals
      go_wp2_with fail
      refine (awake_any _).mono ?_
      rintro e w3 ⟨rfl, hm3⟩
      have hO3 := hO2.then hm3
      go_wp2_with fail
      refine (One_Get hO3 1).mono ?_
      rintro e w4 ⟨rfl, hO4⟩
      have hm4 := hmv.then hO4.mod (by simp; omega)
      go_wp2_with fail
      go_ret
      exact ⟨rfl, hm4⟩
end Go.Proofs.Ytbjjeacdgbppoaa
