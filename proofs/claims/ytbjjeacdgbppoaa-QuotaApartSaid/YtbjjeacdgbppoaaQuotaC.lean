/- The quota meter: Sub and Reset. -/
import Derived.Test.YtbjjeacdgbppoaaQuotaB
namespace Go.Proofs.Ytbjjeacdgbppoaa
open Go Go.RowKit Go.Stg

theorem Sub_nil (p : Int) (q : Q) (w : World) :
    Calls Try.prog 12 #[.pointer none, .int .i64 p, .agg #[.int .i64 q.b, .int .i64 q.o, .int .i64 q.r]] w fun e w' => e = .returned (.int .i64 1) ∧ Mod [] w w' := by
  go_enter Try.func12, Try.ntmps12
  go_wp2_with (go_at_call 11; refine (Get_nil p _).mono ?_; rintro e w1 ⟨rfl, hm1⟩)
  all_goals go_ret
  all_goals exact ⟨rfl, (((Mod.refl _ _).alloc _).nil_then hm1).alloc _⟩

theorem Sub_no (p : Int) (q l : Q) (b : Nat) (mo : Option Nat) (f : Int → Q) (w : World) (hM : MeterAt w b mo l f) (h : subE (f p) q = 1) :
    Calls Try.prog 12 #[.pointer (some ⟨b, 0, none⟩), .int .i64 p, .agg #[.int .i64 q.b, .int .i64 q.o, .int .i64 q.r]] w fun e w' => e = .returned (.int .i64 1) ∧ Mod [] w w' := by
  have hM1 := hM.mod ((Mod.refl [] w).alloc (.cells #[.int .i64 q.b, .int .i64 q.o, .int .i64 q.r] 24 (0, 0))) (by simp)
  have HG := Lib.hid (Get_any p l b mo f _ hM1)
  clear hM1
  by_cases hn : negB q = true
  · clear h hM
    go_enter Try.func12, Try.ntmps12
    go_wp2_with fail
    refine HG.out.mono ?_
    rintro e w1 ⟨rfl, hm1⟩
    have hcq := cells_of (hm1.at (at_alloc w _) (by simp))
    have hm2 := ((Mod.refl [] w).alloc (.cells #[.int .i64 q.b, .int .i64 q.o, .int .i64 q.r] 24 (0, 0))).nil_then hm1
    have hlt := hm1.gt
    go_wp2_with (go_at_call 21; refine (negative_any q _).mono ?_; rintro e w3 ⟨rfl, hm3⟩)
    all_goals go_ret
    all_goals exact ⟨rfl, (hm2.alloc _).nil_then hm3⟩
  · have ho : overB (f p) q = true := by
      unfold subE at h
      split at h
      · rename_i h'; exact h'.resolve_left hn
      · cases h
    simp only [Bool.not_eq_true] at hn
    simp only [overB, Bool.or_eq_true, decide_eq_true_eq] at ho
    clear h hM
    go_enter Try.func12, Try.ntmps12
    go_wp2_with fail
    refine HG.out.mono ?_
    rintro e w1 ⟨rfl, hm1⟩
    have hq1 := hm1.at (at_alloc w _) (by simp)
    have hcq := cells_of hq1
    have hm2 := ((Mod.refl [] w).alloc (.cells #[.int .i64 q.b, .int .i64 q.o, .int .i64 q.r] 24 (0, 0))).nil_then hm1
    have hlt := hm1.gt
    go_wp2_with fail
    refine (negative_any q _).mono ?_
    rintro e w3 ⟨rfl, hm3⟩
    have hcq3 := cells_of (hm3.at (at_alloc_old hq1) (by simp))
    have hcx3 := cells_of (hm3.at (at_alloc w1 _) (by simp))
    have hm4 := (hm2.alloc _).nil_then hm3
    clear hm1 hm2 hm3
    go_wp2
    all_goals go_ret
    all_goals exact ⟨rfl, hm4⟩

theorem subE_zero {x q : Q} (h : subE x q = 0) (hx : x.pos) : negB q = false ∧ overB x q = false ∧ (x.sub q).pos ∧ q.pos := by
  unfold subE at h
  split at h
  · cases h
  · rename_i hn
    have h1 : negB q = false := by cases hq : negB q with | false => rfl | true => exact absurd (.inl hq) hn
    have h2 : overB x q = false := by cases hq : overB x q with | false => rfl | true => exact absurd (.inr hq) hn
    refine ⟨h1, h2, ?_⟩
    simp only [negB, overB, Bool.or_eq_false_iff, decide_eq_false_iff_not] at h1 h2
    obtain ⟨⟨a1, a2⟩, ⟨b1, b2⟩, c1, c2⟩ := hx
    simp only [Q.pos, Q.sub]
    omega

set_option maxHeartbeats 1000000 in
theorem Sub_yes (p : Int) (q l : Q) (b : Nat) (mo : Option Nat) (f : Int → Q) (w : World) (hM : MeterAt w b mo l f) (h : subE (f p) q = 0) :
    Calls Try.prog 12 #[.pointer (some ⟨b, 0, none⟩), .int .i64 p, .agg #[.int .i64 q.b, .int .i64 q.o, .int .i64 q.r]] w (Changed (.int .i64 0) b mo l (upd f p ((f p).sub q)) w) := by
  have hM1 := hM.mod ((Mod.refl [] w).alloc (.cells #[.int .i64 q.b, .int .i64 q.o, .int .i64 q.r] 24 (0, 0))) (by simp)
  have HG := Lib.hid (Get_any p l b mo f _ hM1)
  have hx := hM.has p
  obtain ⟨hn, ho, hap, hqp⟩ := subE_zero h hx
  have hp' := upd_pos (p := p) hM.has hap
  clear h hM1
  simp only [overB, Bool.or_eq_false_iff, decide_eq_false_iff_not, Int.not_lt] at ho
  obtain ⟨⟨o1, o2⟩, o3⟩ := ho
  obtain ⟨⟨q1, q2⟩, ⟨q3, q4⟩, q5, q6⟩ := hqp
  obtain ⟨⟨x1, x2⟩, ⟨x3, x4⟩, x5, x6⟩ := hx
  obtain ⟨hl, hf, hb, hmap, hne⟩ := hM
  have hlb := lt_of hb
  have hnil : ∀ w, (binOp .neq 45 (.map mo) (.map none)).run Try.prog w = .ok (.bool (!mo.isNone)) w := fun w => run_neq_map_nil w _ _ _ mo Try.underlying45
  cases mo with
  | none =>
    simp only [Option.isNone_none, Bool.not_true] at hnil
    go_enter Try.func12, Try.ntmps12
    go_wp2_with fail
    refine HG.out.mono ?_
    rintro e w1 ⟨rfl, hm1⟩
    have hb1 := hm1.at (at_alloc_old hb) (by simp)
    have hq1 := hm1.at (at_alloc w _) (by simp)
    have hcq := cells_of hq1
    have hm2 := ((Mod.refl [] w).alloc (.cells #[.int .i64 q.b, .int .i64 q.o, .int .i64 q.r] 24 (0, 0))).nil_then hm1
    have hlt := hm1.gt
    go_wp2_with fail
    refine (negative_any q _).mono ?_
    rw [hn]
    rintro e w3 ⟨rfl, hm3⟩
    have hb3 := hm3.at (at_alloc_old hb1) (by simp)
    have hcb3 := cells_of hb3
    have hcq3 := cells_of (hm3.at (at_alloc_old hq1) (by simp))
    have hcx3 := cells_of (hm3.at (at_alloc w1 _) (by simp))
    have hm4 := (hm2.alloc _).nil_then hm3
    clear hm1 hm2 hm3
    go_wp2
    go_ret
    refine ⟨none, rfl, hm4.mono (by simp), ⟨hl, hp', hb3, ?_, by simp⟩, by simp⟩
    intro k
    have hk := hmap k
    have hpz := hmap p
    unfold upd
    split
    · rw [hpz] at o1 o2 o3 ⊢
      simp only [Q.zero] at o1 o2 o3
      simp only [Q.zero, Q.sub, Q.mk.injEq]
      omega
    · exact hk
  | some bm =>
    obtain ⟨es, c, hbm, hes, hg⟩ := hmap
    have hnb : b ≠ bm := fun e => hne (by rw [e])
    have hlbm := lt_of hbm
    simp only [Option.isNone_some, Bool.not_false] at hnil
    go_enter Try.func12, Try.ntmps12
    go_wp2_with fail
    refine HG.out.mono ?_
    rintro e w1 ⟨rfl, hm1⟩
    have hb1 := hm1.at (at_alloc_old hb) (by simp)
    have hbm1 := hm1.at (at_alloc_old hbm) (by simp)
    have hq1 := hm1.at (at_alloc w _) (by simp)
    have hcq := cells_of hq1
    have hm2 := ((Mod.refl [b, bm] w).alloc (.cells #[.int .i64 q.b, .int .i64 q.o, .int .i64 q.r] 24 (0, 0))).nil_then hm1
    have hlt := hm1.gt
    go_wp2_with fail
    refine (negative_any q _).mono ?_
    rw [hn]
    rintro e w3 ⟨rfl, hm3⟩
    have hWb := hm3.at (at_alloc_old hb1) (by simp)
    have hWm := hm3.at (at_alloc_old hbm1) (by simp)
    have hWq := hm3.at (at_alloc_old hq1) (by simp)
    have hWx := hm3.at (at_alloc w1 _) (by simp)
    have hcb3 := cells_of hWb
    have hcq3 := cells_of hWq
    have hcx3 := cells_of hWx
    have hm4 := (hm2.alloc _).nil_then hm3
    clear hm1 hm2 hm3
    go_wp2_with fail
    clear hcb3 hcq3 hcx3 hcq
    have hk1 := GW.cells (S := [bm]) hWb (by simp; omega)
    have hk2 := GW.cells (S := [bm]) hWq (by simp; omega)
    have hk3 := GW.cells (S := [bm]) hWx (by have := lt_of hbm1; simp; omega)
    refine wp_region_stage (fun w' => ∃ x : GW [bm] w3, w' = x.1) (fun w' => Mod [] w3 w') (by kernel_rfl) (by kernel_rfl) (fun _ h => InGW.of (h.mono (by simp))) (Mod.refl _ _).drew ?_
    refine stage_quiet 21 (by kernel_rfl) ?_
    simp only [List.take_succ_cons, List.take_zero, List.drop_succ_cons, List.drop_zero]
    repeat (go_big_quiet_step (fail))
    refine wpQuiet_nil ?_
    refine stage_mapUpdate bm es c p (qv ((f p).sub q)) (fun w' => Mod [bm] w3 w' ∧ w'.heap[bm]? = some (.map (mput p (qv ((f p).sub q)) c es).1 (mput p (qv ((f p).sub q)) c es).2)) rfl Try.underlying45 Try.underlying3 rfl rfl rfl rfl hes (fun w' h => h.at hWm (by simp)) (fun w' h => ⟨(h.mono (by simp)).setMap (.inl (by simp)) _, at_setMap (h.at hWm (by simp))⟩) (fun w' h => InGW.of h.1) ?_
    simp only [Act.put]
    refine stage_nil fun w2 hm2 => ?_
    go_wp2
    go_ret
    refine ⟨some bm, rfl, hm4.then hm2.1 (by simp), ⟨hl, hp', hm2.1.at hWb (by simp; omega), MapAt.put hm2.2 hes hg, hne⟩, ?_⟩
    intro x hx
    exact .inl hx

theorem Reset_nil (p : Int) (w : World) : Calls Try.prog 19 #[.pointer none, .int .i64 p] w fun e w' => e = .returned (.tuple #[]) ∧ Mod [] w w' := by
  go_enter Try.func19, Try.ntmps19
  go_wp2
  go_end0
  exact ⟨rfl, Mod.refl _ _⟩

theorem Reset_any (p : Int) (l : Q) (b : Nat) (mo : Option Nat) (f : Int → Q) (w : World) (hM : MeterAt w b mo l f) :
    Calls Try.prog 19 #[.pointer (some ⟨b, 0, none⟩), .int .i64 p] w (Changed (.tuple #[]) b mo l (upd f p Q.zero) w) := by
  have hp' := upd_pos (p := p) (v := Q.zero) hM.has (by simp [Q.zero, Q.pos])
  obtain ⟨hl, hf, hb, hmap, hne⟩ := hM
  have hlb := lt_of hb
  have hcb := cells_of hb
  cases mo with
  | none =>
    have hdel := fun ty w => run_delete_nil (P := Try.prog) (ty := ty) Try.underlying45 Try.underlying3 w p #[45, 3] rfl
    go_enter Try.func19, Try.ntmps19
    go_wp2
    go_end0
    refine ⟨none, rfl, Mod.refl _ _, ⟨hl, hp', hb, ?_, by simp⟩, by simp⟩
    intro k
    unfold upd
    split
    · rfl
    · exact hmap k
  | some bm =>
    obtain ⟨es, c, hbm, hes, hg⟩ := hmap
    have hdel := fun ty => run_delete_int (P := Try.prog) (ty := ty) Try.underlying45 Try.underlying3 hbm hes p #[45, 3] rfl
    obtain ⟨d1, d2⟩ := mdel_spec p es hes
    have hnb : b ≠ bm := fun e => hne (by rw [e])
    go_enter Try.func19, Try.ntmps19
    go_wp2
    go_end0
    refine ⟨some bm, rfl, (Mod.refl _ _).setMap (.inl (by simp)) _, ⟨hl, hp', at_setMap_other hb hnb, ⟨_, _, at_setMap hbm, d1, fun k => ?_⟩, hne⟩, fun x hx => .inl hx⟩
    rw [d2 k]
    unfold upd
    split
    · rfl
    · exact hg k
end Go.Proofs.Ytbjjeacdgbppoaa
