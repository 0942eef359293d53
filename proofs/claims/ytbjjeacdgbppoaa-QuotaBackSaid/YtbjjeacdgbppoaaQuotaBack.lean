/- QuotaBack returns true whatever its arguments: the walk. -/
import Derived.Test.YtbjjeacdgbppoaaQuotaExact
namespace Go.Proofs.Ytbjjeacdgbppoaa
open Go Go.RowKit Go.Stg

def L0 : Q := ⟨1000, 1000, 1000⟩
def bF1 (a : X3) : Int → Q := addF L0 (fun _ => Q.zero) 1 ⟨a.a, a.b, a.c⟩
def bF2 (a c : X3) : Int → Q := addF L0 (bF1 a) 1 ⟨c.a, c.b, c.c⟩
def bF3 (a c : X3) : Int → Q := subF (bF2 a c) 1 ⟨a.a + c.a, a.b + c.b, a.c + c.c + 1⟩
def bF4 (a c : X3) : Int → Q := subF (bF3 a c) 1 ⟨c.a, c.b, c.c⟩
theorem back_plain (a c : X3) (ha : a.ok) (hc : c.ok) :
    fitsE L0 Q.zero ⟨a.a, a.b, a.c⟩ = 0 ∧ fitsE L0 (bF1 a 1) ⟨c.a, c.b, c.c⟩ = 0 ∧ subE (bF2 a c 1) ⟨a.a + c.a, a.b + c.b, a.c + c.c + 1⟩ = 1 ∧ subE (bF3 a c 1) ⟨c.a, c.b, c.c⟩ = 0 ∧ bF4 a c 1 = ⟨a.a, a.b, a.c⟩ := by
  obtain ⟨⟨a1, a2⟩, ⟨a3, a4⟩, a5, a6⟩ := ha
  obtain ⟨⟨c1, c2⟩, ⟨c3, c4⟩, c5, c6⟩ := hc
  have hap : Q.pos ⟨a.a, a.b, a.c⟩ := by simp only [Q.pos]; omega
  have hcp : Q.pos ⟨c.a, c.b, c.c⟩ := by simp only [Q.pos]; omega
  have h1 : fitsE L0 Q.zero ⟨a.a, a.b, a.c⟩ = 0 := fits_yes hap (by simp only [Q.zero, L0]; omega)
  have e1 : bF1 a 1 = ⟨a.a, a.b, a.c⟩ := by unfold bF1 addF; rw [if_pos (by exact h1)]; simp [upd, Q.add, Q.zero]
  have h2 : fitsE L0 (bF1 a 1) ⟨c.a, c.b, c.c⟩ = 0 := by rw [e1]; exact fits_yes hcp (by simp only [L0]; omega)
  have e2 : bF2 a c 1 = ⟨a.a + c.a, a.b + c.b, a.c + c.c⟩ := by unfold bF2 addF; rw [if_pos h2, e1]; simp [upd, Q.add]
  have h3 : subE (bF2 a c 1) ⟨a.a + c.a, a.b + c.b, a.c + c.c + 1⟩ = 1 := by
    rw [e2]; unfold subE; rw [if_pos]
    right
    simp [overB]
    omega
  have e3 : bF3 a c 1 = ⟨a.a + c.a, a.b + c.b, a.c + c.c⟩ := by unfold bF3 subF; rw [if_neg (by rw [h3]; decide), e2]
  have h4 : subE (bF3 a c 1) ⟨c.a, c.b, c.c⟩ = 0 := by
    rw [e3]; unfold subE; rw [if_neg]
    simp [overB, negB]
    omega
  refine ⟨h1, h2, h3, h4, ?_⟩
  unfold bF4 subF
  rw [if_pos h4, e3]
  simp [upd, Q.sub]

set_option maxHeartbeats 4000000 in
theorem back_walk (a c : X3) (ha : a.ok) (hc : c.ok) (w : World) :
    Calls Try.prog 4 #[.agg #[.int .u8 a.a, .int .u8 a.b, .int .u8 a.c], .agg #[.int .u8 c.a, .int .u8 c.b, .int .u8 c.c]] w fun e w' => e = .returned (.bool true) ∧ Mod [] w w' := by
  obtain ⟨h1, h2, h3, h4, h5⟩ := back_plain a c ha hc
  obtain ⟨⟨a1, a2⟩, ⟨a3, a4⟩, a5, a6⟩ := ha
  obtain ⟨⟨c1, c2⟩, ⟨c3, c4⟩, c5, c6⟩ := hc
  have H1 := Lib.hid h1
  have H2 := Lib.hid h2
  have H3 := Lib.hid h3
  have H4 := Lib.hid h4
  have H5 := Lib.hid h5
  clear h1 h2 h3 h4 h5
  go_enter Try.func4, Try.ntmps4
  go_wp2_with fail
  refine (New_any ⟨1000, 1000, 1000⟩ _ (by simp [Q.i64])).mono ?_
  rintro e w1 ⟨b, rfl, hm1, hb, hM⟩
  have hmw := (((Mod.refl [] w).alloc (.cells #[.int .u8 a.a, .int .u8 a.b, .int .u8 a.c] 22 (0, 0))).alloc (.cells #[.int .u8 c.a, .int .u8 c.b, .int .u8 c.c] 22 (0, 0))).nil_then hm1
  have k1 := hm1.at (at_alloc_old (at_alloc w (.cells #[.int .u8 a.a, .int .u8 a.b, .int .u8 a.c] 22 (0, 0)))) (by simp)
  have k2 := hm1.at (at_alloc (w.alloc (.cells #[.int .u8 a.a, .int .u8 a.b, .int .u8 a.c] 22 (0, 0))) (.cells #[.int .u8 c.a, .int .u8 c.b, .int .u8 c.c] 22 (0, 0))) (by simp)
  simp only [World.size_alloc] at k2 hb
  have hsz := hm1.gt
  simp only [World.size_alloc] at hsz
  have z1 : w.heap.size < w1.heap.size := by omega
  have j1 := cells_of k1
  have j2 := cells_of k2
  clear hm1
  go_wp2_with fail
  have v1 := at_alloc w1 (.cells #[.int .i64 a.a, .int .i64 a.b, .int .i64 a.c] 24 (0, 0))
  have v2 := at_alloc (w1.alloc (.cells #[.int .i64 a.a, .int .i64 a.b, .int .i64 a.c] 24 (0, 0))) (.cells #[.int .i64 c.a, .int .i64 c.b, .int .i64 c.c] 24 (0, 0))
  have v3 := at_alloc ((w1.alloc (.cells #[.int .i64 a.a, .int .i64 a.b, .int .i64 a.c] 24 (0, 0))).alloc (.cells #[.int .i64 c.a, .int .i64 c.b, .int .i64 c.c] 24 (0, 0))) (.cells #[.int .i64 (a.a + c.a), .int .i64 (a.b + c.b), .int .i64 (a.c + c.c + 1)] 24 (0, 0))
  simp only [World.size_alloc] at v2 v3
  have v2 := at_alloc_old (o := .cells #[.int .i64 (a.a + c.a), .int .i64 (a.b + c.b), .int .i64 (a.c + c.c + 1)] 24 (0, 0)) v2
  have v1 := at_alloc_old (o := .cells #[.int .i64 (a.a + c.a), .int .i64 (a.b + c.b), .int .i64 (a.c + c.c + 1)] 24 (0, 0)) (at_alloc_old (o := .cells #[.int .i64 c.a, .int .i64 c.b, .int .i64 c.c] 24 (0, 0)) v1)
  have hlb := lt_of hM.blk
  have hmv := ((hmw.alloc (.cells #[.int .i64 a.a, .int .i64 a.b, .int .i64 a.c] 24 (0, 0))).alloc (.cells #[.int .i64 c.a, .int .i64 c.b, .int .i64 c.c] 24 (0, 0))).alloc (.cells #[.int .i64 (a.a + c.a), .int .i64 (a.b + c.b), .int .i64 (a.c + c.c + 1)] 24 (0, 0))
  have hMV := hM.mod ((((Mod.refl [] w1).alloc (.cells #[.int .i64 a.a, .int .i64 a.b, .int .i64 a.c] 24 (0, 0))).alloc (.cells #[.int .i64 c.a, .int .i64 c.b, .int .i64 c.c] 24 (0, 0))).alloc (.cells #[.int .i64 (a.a + c.a), .int .i64 (a.b + c.b), .int .i64 (a.c + c.c + 1)] 24 (0, 0))) (by simp)
  clear hM hmw k1 k2 j1 j2
  generalize ((w1.alloc (.cells #[.int .i64 a.a, .int .i64 a.b, .int .i64 a.c] 24 (0, 0))).alloc (.cells #[.int .i64 c.a, .int .i64 c.b, .int .i64 c.c] 24 (0, 0))).alloc (.cells #[.int .i64 (a.a + c.a), .int .i64 (a.b + c.b), .int .i64 (a.c + c.c + 1)] 24 (0, 0)) = V at *
  have hO : One [b] V b L0 (fun _ => Q.zero) V := ⟨none, Mod.refl _ _, hMV, by simp, by simp⟩
  have q1 := GW.cells (S := [b]) v1 (by simp; omega)
  have q2 := GW.cells (S := [b]) v2 (by simp; omega)
  have q3 := GW.cells (S := [b]) v3 (by simp; omega)
  refine wp_region_stage (fun w' => ∃ x : GW [b] V, w' = x.1) (One [b] V b L0 (fun _ => Q.zero)) (by kernel_rfl) (by kernel_rfl) (fun _ h => InGW.of h.mod) (hO.then ((Mod.refl _ _).drew)) ?_
  refine stage_quiet 2 (by kernel_rfl) ?_
  simp only [List.take_succ_cons, List.take_zero, List.drop_succ_cons, List.drop_zero]
  repeat (go_big_quiet_step (fail))
  refine wpQuiet_nil ?_
  refine stage_go 9 _ (.int .i64 0) (One [b] V b L0 (bF1 a)) rfl Try.call9 rfl rfl (fun w' h => by have := One_Add h 1 ⟨a.a, a.b, a.c⟩; rw [H1.out] at this; exact this) (fun _ h => InGW.of h.mod) ?_
  simp only [Act.put, List.setIfInBounds_toArray, List.set_cons_succ, List.set_cons_zero]
  refine stage_quiet 2 (by kernel_rfl) ?_
  simp only [List.take_succ_cons, List.take_zero, List.drop_succ_cons, List.drop_zero]
  repeat (go_big_quiet_step (fail))
  refine wpQuiet_nil ?_
  refine stage_go 9 _ (.int .i64 0) (One [b] V b L0 (bF2 a c)) rfl Try.call9 rfl rfl (fun w' h => by have := One_Add h 1 ⟨c.a, c.b, c.c⟩; rw [H2.out] at this; exact this) (fun _ h => InGW.of h.mod) ?_
  simp only [Act.put, List.setIfInBounds_toArray, List.set_cons_succ, List.set_cons_zero]
  refine stage_quiet 2 (by kernel_rfl) ?_
  simp only [List.take_succ_cons, List.take_zero, List.drop_succ_cons, List.drop_zero]
  repeat (go_big_quiet_step (fail))
  refine wpQuiet_nil ?_
  refine stage_go 12 _ (.int .i64 1) (One [b] V b L0 (bF3 a c)) rfl Try.call12 rfl rfl (fun w' h => by have := One_Sub h 1 ⟨a.a + c.a, a.b + c.b, a.c + c.c + 1⟩; rw [H3.out] at this; exact this) (fun _ h => InGW.of h.mod) ?_
  simp only [Act.put, List.setIfInBounds_toArray, List.set_cons_succ, List.set_cons_zero]
  refine stage_quiet 2 (by kernel_rfl) ?_
  simp only [List.take_succ_cons, List.take_zero, List.drop_succ_cons, List.drop_zero]
  repeat (go_big_quiet_step (fail))
  refine wpQuiet_nil ?_
  refine stage_go 12 _ (.int .i64 0) (One [b] V b L0 (bF4 a c)) rfl Try.call12 rfl rfl (fun w' h => by have := One_Sub h 1 ⟨c.a, c.b, c.c⟩; rw [H4.out] at this; exact this) (fun _ h => InGW.of h.mod) ?_
  simp only [Act.put, List.setIfInBounds_toArray, List.set_cons_succ, List.set_cons_zero]
  refine stage_quiet 4 (by kernel_rfl) ?_
  simp only [List.take_succ_cons, List.take_zero, List.drop_succ_cons, List.drop_zero]
  repeat (go_big_quiet_step (fail))
  refine wpQuiet_nil ?_
  refine stage_nil fun w5 h5 => ?_
  have p1 := h5.mod.at v1 (by simp; omega)
  have hm5 := hmv.then h5.mod (by simp; omega)
  clear q1 q2 q3 v1 v2 v3 hO hMV hmv
  have q1 := GW.cells (S := []) p1 (by simp)
  go_wp2_with fail
  refine wp_region_pure (by kernel_rfl) (by kernel_rfl) ?_
  refine stage_pure 10 _ (.bool true) rfl Try.call10 rfl rfl (fun w' _ => awake_any w') ?_
  simp only [Act.put, List.setIfInBounds_toArray, List.set_cons_succ, List.set_cons_zero]
  refine stage_quiet 18 (by kernel_rfl) ?_
  simp only [List.take_succ_cons, List.take_zero, List.drop_succ_cons, List.drop_zero]
  repeat (go_big_quiet_step (fail))
  refine wpQuiet_nil ?_
  refine stage_pure 11 _ (.agg #[.int .i64 a.a, .int .i64 a.b, .int .i64 a.c]) rfl Try.call11 rfl rfl (fun w' h => ?_) ?_
  · obtain ⟨mo, _, hM, _⟩ := h5.then h
    refine (Get_any 1 _ b mo _ w' hM).mono ?_
    rw [H5.out]
    exact fun _ _ h => h
  simp only [Act.put, List.setIfInBounds_toArray, List.set_cons_succ, List.set_cons_zero]
  refine stage_quiet 4 (by kernel_rfl) ?_
  simp only [List.take_succ_cons, List.take_zero, List.drop_succ_cons, List.drop_zero]
  repeat (go_big_quiet_step (fail))
  refine wpQuiet_nil ?_
  refine stage_nil fun w6 hm6 => ?_
  clear h5
  go_wp2
  go_ret
  exact ⟨rfl, hm5.nil_then hm6⟩
end Go.Proofs.Ytbjjeacdgbppoaa
