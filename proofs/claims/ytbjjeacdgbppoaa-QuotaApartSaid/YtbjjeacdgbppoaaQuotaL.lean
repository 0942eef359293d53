/- The laws' helpers of the quota's layer: a small quota, the sanity check, one step. -/
import Derived.Test.YtbjjeacdgbppoaaQuotaP
namespace Go.Proofs.Ytbjjeacdgbppoaa
open Go Go.RowKit Go.Stg

structure X5 where
  a : Int
  b : Int
  c : Int
  d : Int
  e : Int
def X5.ok (x : X5) : Prop := (0 ≤ x.a ∧ x.a ≤ 255) ∧ (0 ≤ x.b ∧ x.b ≤ 255) ∧ (0 ≤ x.c ∧ x.c ≤ 255) ∧ (0 ≤ x.d ∧ x.d ≤ 255) ∧ (0 ≤ x.e ∧ x.e ≤ 255)
def amt (x : X5) : Q := ⟨x.c % 40 - x.c / 250, x.d % 3 - x.d / 250, x.e % 3 - x.e / 250⟩
theorem amt_i64 {x : X5} (h : x.ok) : (amt x).i64 := by
  obtain ⟨_, _, hc, hd, he⟩ := h
  simp only [Q.i64, amt]
  omega

theorem amount_any (x : X5) (w : World) (h : x.ok) :
    Calls Try.prog 22 #[.agg #[.int .u8 x.a, .int .u8 x.b, .int .u8 x.c, .int .u8 x.d, .int .u8 x.e]] w fun e w' => e = .returned (.agg #[.int .i64 (amt x).b, .int .i64 (amt x).o, .int .i64 (amt x).r]) ∧ Mod [] w w' := by
  obtain ⟨_, _, ⟨c1, c2⟩, ⟨d1, d2⟩, e1, e2⟩ := h
  go_enter Try.func22, Try.ntmps22
  go_wp2
  exact bodyPost_ret (v := .agg #[.int .i64 (amt x).b, .int .i64 (amt x).o, .int .i64 (amt x).r]) (by simp [results, Try.results22, go_sem, amt]) rfl ⟨rfl, by repeat (first | exact Mod.refl _ _ | (refine Mod.setCell ?_ (.inr (by simp)) _) | refine Mod.alloc ?_ _)⟩

theorem awake_any (w : World) : Calls Try.prog 10 #[] w fun e w' => e = .returned (.bool true) ∧ Mod [] w w' := by
  go_enter Try.func10, Try.ntmps10
  go_wp2_with fail
  refine (New_any ⟨0, 2, 0⟩ w (by simp [Q.i64])).mono ?_
  rintro e w1 ⟨b, rfl, hm1, hb, hM⟩
  go_wp2_with fail
  have hlb := lt_of hM.blk
  have hM1 := hM.mod ((Mod.refl [] w1).alloc (.cells #[.int .i64 0, .int .i64 1, .int .i64 0] 24 (0, 0))) (by simp)
  have hW := at_alloc w1 (.cells #[.int .i64 0, .int .i64 1, .int .i64 0] 24 (0, 0))
  have hm2 := hm1.alloc (.cells #[.int .i64 0, .int .i64 1, .int .i64 0] 24 (0, 0))
  clear hM hm1
  generalize w1.alloc (.cells #[.int .i64 0, .int .i64 1, .int .i64 0] 24 (0, 0)) = W at *
  have hk1 := GW.cells (S := [b]) hW (by simp; omega)
  have h0 : One [b] W b ⟨0, 2, 0⟩ (fun _ => Q.zero) W := ⟨none, Mod.refl _ _, hM1, by simp, by simp⟩
  refine wp_region_stage (fun w' => ∃ x : GW [b] W, w' = x.1) (One [b] W b ⟨0, 2, 0⟩ (fun _ => Q.zero)) (by kernel_rfl) (by kernel_rfl) (fun _ h => InGW.of h.mod) (h0.then ((Mod.refl _ _).drew)) ?_
  clear h0
  refine stage_quiet 2 (by kernel_rfl) ?_
  simp only [List.take_succ_cons, List.take_zero, List.drop_succ_cons, List.drop_zero]
  repeat (go_big_quiet_step (fail))
  refine wpQuiet_nil ?_
  refine stage_go 9 _ (.int .i64 0) (One [b] W b ⟨0, 2, 0⟩ (addF ⟨0, 2, 0⟩ (fun _ => Q.zero) 1 ⟨0, 1, 0⟩)) rfl Try.call9 rfl rfl (fun w' h => One_Add h 1 ⟨0, 1, 0⟩) (fun _ h => InGW.of h.mod) ?_
  simp only [Act.put, List.setIfInBounds_toArray, List.set_cons_succ, List.set_cons_zero]
  refine stage_quiet 2 (by kernel_rfl) ?_
  simp only [List.take_succ_cons, List.take_zero, List.drop_succ_cons, List.drop_zero]
  repeat (go_big_quiet_step (fail))
  refine wpQuiet_nil ?_
  refine stage_go 9 _ (.int .i64 0) (One [b] W b ⟨0, 2, 0⟩ (addF ⟨0, 2, 0⟩ (addF ⟨0, 2, 0⟩ (fun _ => Q.zero) 1 ⟨0, 1, 0⟩) 1 ⟨0, 1, 0⟩)) rfl Try.call9 rfl rfl (fun w' h => One_Add h 1 ⟨0, 1, 0⟩) (fun _ h => InGW.of h.mod) ?_
  simp only [Act.put, List.setIfInBounds_toArray, List.set_cons_succ, List.set_cons_zero]
  refine stage_quiet 2 (by kernel_rfl) ?_
  simp only [List.take_succ_cons, List.take_zero, List.drop_succ_cons, List.drop_zero]
  repeat (go_big_quiet_step (fail))
  refine wpQuiet_nil ?_
  refine stage_go 9 _ (.int .i64 16) (One [b] W b ⟨0, 2, 0⟩ (addF ⟨0, 2, 0⟩ (addF ⟨0, 2, 0⟩ (addF ⟨0, 2, 0⟩ (fun _ => Q.zero) 1 ⟨0, 1, 0⟩) 1 ⟨0, 1, 0⟩) 1 ⟨0, 1, 0⟩)) rfl Try.call9 rfl rfl (fun w' h => One_Add h 1 ⟨0, 1, 0⟩) (fun _ h => InGW.of h.mod) ?_
  simp only [Act.put, List.setIfInBounds_toArray, List.set_cons_succ, List.set_cons_zero]
  refine stage_quiet 3 (by kernel_rfl) ?_
  simp only [List.take_succ_cons, List.take_zero, List.drop_succ_cons, List.drop_zero]
  repeat (go_big_quiet_step (fail))
  refine wpQuiet_nil ?_
  refine stage_nil fun w2 h2 => ?_
  have hm3 := h2.mod
  clear hk1 h2
  go_wp2
  go_ret
  exact ⟨rfl, hm2.then hm3 (by simp; omega)⟩

/-- What one step does to the two. -/
def stepF (l : Q) (f : Int → Q) (x : X5) : Int → Q :=
  if x.a % 8 = 0 then addF l (upd f (x.b % 4) Q.zero) (x.b % 4) (amt x) else if x.a % 8 = 1 ∨ x.a % 8 = 2 ∨ x.a % 8 = 3 then subF f (x.b % 4) (amt x) else addF l f (x.b % 4) (amt x)
def stepL (l : Q) (L : List (Int × Q)) (x : X5) : List (Int × Q) :=
  if x.a % 8 = 0 then addL l (rset (x.b % 4) Q.zero L) (x.b % 4) (amt x) else if x.a % 8 = 1 ∨ x.a % 8 = 2 ∨ x.a % 8 = 3 then subL L (x.b % 4) (amt x) else addL l L (x.b % 4) (amt x)
theorem Agree.step {f : Int → Q} {L : List (Int × Q)} (h : Agree f L) (l : Q) (x : X5) : Agree (stepF l f x) (stepL l L x) := by
  unfold stepF stepL
  split
  · exact (h.set _ _).add _ _ _
  · split
    · exact h.sub _ _
    · exact h.add _ _ _
theorem stepL_length (l : Q) (L : List (Int × Q)) (x : X5) : (stepL l L x).length ≤ L.length + 2 := by
  unfold stepL
  split
  · exact Nat.le_trans (addL_length _ _ _ _) (by have := rset_length (x.b % 4) Q.zero L; omega)
  · split
    · exact Nat.le_trans (subL_length _ _ _) (by omega)
    · exact Nat.le_trans (addL_length _ _ _ _) (by omega)
theorem addF_other (l : Q) (f : Int → Q) (p k : Int) (q : Q) (h : k ≠ p) : addF l f p q k = f k := by
  unfold addF; split
  · simp [upd, h]
  · rfl
theorem subF_other (f : Int → Q) (p k : Int) (q : Q) (h : k ≠ p) : subF f p q k = f k := by
  unfold subF; split
  · simp [upd, h]
  · rfl
theorem stepF_other (l : Q) (f : Int → Q) (x : X5) (k : Int) (hx : x.ok) (h : 4 ≤ k) : stepF l f x k = f k := by
  obtain ⟨_, ⟨b1, b2⟩, _⟩ := hx
  have hne : k ≠ x.b % 4 := by omega
  unfold stepF
  split
  · rw [addF_other _ _ _ _ _ hne]; simp [upd, hne]
  · split
    · exact subF_other _ _ _ _ hne
    · exact addF_other _ _ _ _ _ hne

set_option maxHeartbeats 4000000 in
theorem step_any {S : List Nat} {W0 w : World} {b rb : Nat} {l : Q} {f : Int → Q} {L : List (Int × Q)} (h : Pair S W0 b rb l f L w) (hA : Agree f L) (hlen : L.length < 999999) (x : X5) (hx : x.ok) :
    Calls Try.prog 13 #[.pointer (some ⟨b, 0, none⟩), .pointer (some ⟨rb, 0, none⟩), .agg #[.int .u8 x.a, .int .u8 x.b, .int .u8 x.c, .int .u8 x.d, .int .u8 x.e]] w
      fun e w' => e = .returned (.bool true) ∧ Pair S W0 b rb l (stepF l f x) (stepL l L x) w' := by
  have HA := Lib.hid (fun w => amount_any x w hx)
  have hqi := amt_i64 hx
  have hm0 := h.mod
  obtain ⟨hbS, hrbS⟩ := h.mem
  obtain ⟨S1, hS1, hP1⟩ := h.base
  have hback : ∀ {f' L' w'} {V : World}, Mod [] w V → Pair S1 V b rb l f' L' w' → Pair S W0 b rb l f' L' w' := fun hV hp => hp.back (hm0.nil_then hV) hbS hrbS (fun x hx => (hS1 x hx).2)
  obtain ⟨⟨a1, a2⟩, ⟨b1, b2⟩, _⟩ := hx
  have hp1 := hP1 [] w (Mod.refl _ _) (by simp)
  have hbx0 : ∀ x, x ∈ S1 → x < w.heap.size := fun x hx => (hS1 x hx).1
  clear h hS1
  have d0 : x.a % 8 = 0 ∨ (x.a % 8 = 1 ∨ x.a % 8 = 2 ∨ x.a % 8 = 3) ∨ (x.a % 8 = 4 ∨ x.a % 8 = 5 ∨ x.a % 8 = 6 ∨ x.a % 8 = 7) := by omega
  go_enter Try.func13, Try.ntmps13
  go_wp2_with fail
  refine (HA.out _).mono ?_
  rintro e w1 ⟨rfl, hm1⟩
  have hx1 := hm1.at (at_alloc w _) (by simp)
  have hcx := cells_of hx1
  have hlt := hm1.gt
  have hV : Mod [] w (w1.alloc (.cells #[.int .i64 (amt x).b, .int .i64 (amt x).o, .int .i64 (amt x).r] 24 (0, 0))) := (((Mod.refl [] w).alloc _).nil_then hm1).alloc _
  have hVx := at_alloc w1 (.cells #[.int .i64 (amt x).b, .int .i64 (amt x).o, .int .i64 (amt x).r] 24 (0, 0))
  have hVs : (w1.alloc (.cells #[.int .i64 (amt x).b, .int .i64 (amt x).o, .int .i64 (amt x).r] 24 (0, 0))).heap.size = w1.heap.size + 1 := by simp
  have hPV := hP1 [] _ hV (by simp)
  have hb2 := fun {f' L' w'} => @hback f' L' w' _ hV
  clear hback hm1 hx1 hP1 hp1 HA
  rcases d0 with d0 | d0 | d0
  · have e0 : (x.a % 8 == 0) = true := by simpa using d0
    have hsF : stepF l f x = addF l (upd f (x.b % 4) Q.zero) (x.b % 4) (amt x) := by unfold stepF; rw [if_pos d0]
    have hsL : stepL l L x = addL l (rset (x.b % 4) Q.zero L) (x.b % 4) (amt x) := by unfold stepL; rw [if_pos d0]
    have HF := Lib.hid hsF
    have HL := Lib.hid hsL
    clear d0 hsF hsL hV
    go_wp2_with fail
    generalize x.b % 4 = p at *
    generalize amt x = q at *
    generalize hVe : w1.alloc (.cells #[.int .i64 q.b, .int .i64 q.o, .int .i64 q.r] 24 (0, 0)) = V at *
    clear hVe hcx
    refine (Pair_Reset hPV p).mono ?_
    rintro e w3 ⟨rfl, hP⟩
    have h3 := hP.mod
    go_wp2_with fail
    refine (Pair_RReset hP p (by omega)).mono ?_
    rintro e W ⟨rfl, hP⟩
    have hWx := hP.mod.at hVx (fun h => by have := hbx0 _ h; omega)
    have hA := hA.set p Q.zero
    have hlen : (rset p Q.zero L).length < 1000000 := by have := rset_length p Q.zero L; omega
    have hVW := hP.mod
    go_wp2_with fail
    have hfp : ((upd f p Q.zero) p).pos := hP.pos p
    have hb3 : ∀ {f' L' w' S2}, (∀ x, x ∈ S2 → x < W.heap.size ∧ (x ∈ S1 ∨ V.heap.size ≤ x)) → Pair S2 W b rb l f' L' w' → Pair S1 V b rb l f' L' w' := fun hS2 hp => hp.back hVW hP.mem.1 hP.mem.2 (fun x hx => (hS2 x hx).2)
    have hfresh : ∀ {S2 : List Nat}, (∀ x, x ∈ S2 → x < W.heap.size ∧ (x ∈ S1 ∨ V.heap.size ≤ x)) → w1.heap.size ∉ S2 := fun hS2 h => by
      rcases (hS2 _ h).2 with h | h
      · have := hbx0 _ h; omega
      · omega
    clear h3 hVW hPV
    obtain ⟨S2, hS2, hP2⟩ := hP.base
    have hP3 := hP2 [] W (Mod.refl _ _) (by simp)
    have hbx := GW.cells (S := S2) hWx (hfresh hS2)
    refine wp_region_stage (fun w' => ∃ x : GW S2 W, w' = x.1) (Pair S2 W b rb l (upd f p Q.zero) (rset p Q.zero L)) (by kernel_rfl) (by kernel_rfl) (fun _ h => InGW.of h.mod) (hP3.then (Mod.refl _ _).drew) ?_
    refine stage_quiet 3 (by kernel_rfl) ?_
    simp only [List.take_succ_cons, List.take_zero, List.drop_succ_cons, List.drop_zero]
    repeat (go_big_quiet_step (fail))
    refine wpQuiet_nil ?_
    refine stage_go 15 _ (.int .i64 (fitsE l ((upd f p Q.zero) p) q)) (Pair S2 W b rb l (upd f p Q.zero) (rset p Q.zero L)) rfl Try.call15 rfl rfl (fun w' h => Pair_Fits h p q) (fun _ h => InGW.of h.mod) ?_
    simp only [Act.put, List.setIfInBounds_toArray, List.set_cons_succ, List.set_cons_zero]
    refine stage_quiet 3 (by kernel_rfl) ?_
    simp only [List.take_succ_cons, List.take_zero, List.drop_succ_cons, List.drop_zero]
    repeat (go_big_quiet_step (fail))
    refine wpQuiet_nil ?_
    refine stage_go 16 _ (.int .i64 (fitsE l ((upd f p Q.zero) p) q)) (Pair S2 W b rb l (upd f p Q.zero) (rset p Q.zero L)) rfl Try.call16 rfl rfl (fun w' h => by have := Pair_RFits h p q (hA p ▸ h.pos p) hqi; rw [← hA p] at this; exact this) (fun _ h => InGW.of h.mod) ?_
    simp only [Act.put, List.setIfInBounds_toArray, List.set_cons_succ, List.set_cons_zero]
    refine stage_quiet 5 (by kernel_rfl) ?_
    simp only [List.take_succ_cons, List.take_zero, List.drop_succ_cons, List.drop_zero]
    repeat (go_big_quiet_step (fail))
    refine wpQuiet_nil ?_
    refine stage_go 9 _ (.int .i64 (fitsE l ((upd f p Q.zero) p) q)) (Pair S2 W b rb l (addF l (upd f p Q.zero) p q) (rset p Q.zero L)) rfl Try.call9 rfl rfl (fun w' h => Pair_Add h p q) (fun _ h => InGW.of h.mod) ?_
    simp only [Act.put, List.setIfInBounds_toArray, List.set_cons_succ, List.set_cons_zero]
    refine stage_quiet 3 (by kernel_rfl) ?_
    simp only [List.take_succ_cons, List.take_zero, List.drop_succ_cons, List.drop_zero]
    repeat (go_big_quiet_step (fail))
    refine wpQuiet_nil ?_
    refine stage_go 17 _ (.int .i64 (fitsE l ((upd f p Q.zero) p) q)) (Pair S2 W b rb l (addF l (upd f p Q.zero) p q) (addL l (rset p Q.zero L) p q)) rfl Try.call17 rfl rfl (fun w' h => by have := Pair_RAdd h p q (hA p ▸ hfp) hqi hlen; rw [← hA p] at this; exact this) (fun _ h => InGW.of h.mod) ?_
    simp only [Act.put, List.setIfInBounds_toArray, List.set_cons_succ, List.set_cons_zero]
    refine stage_quiet 5 (by kernel_rfl) ?_
    simp only [List.take_succ_cons, List.take_zero, List.drop_succ_cons, List.drop_zero]
    repeat (go_big_quiet_step (fail))
    refine wpQuiet_nil ?_
    refine stage_go 11 _ (.agg #[.int .i64 (addF l (upd f p Q.zero) p q p).b, .int .i64 (addF l (upd f p Q.zero) p q p).o, .int .i64 (addF l (upd f p Q.zero) p q p).r]) (Pair S2 W b rb l (addF l (upd f p Q.zero) p q) (addL l (rset p Q.zero L) p q)) rfl Try.call11 rfl rfl (fun w' h => Pair_Get h p) (fun _ h => InGW.of h.mod) ?_
    simp only [Act.put, List.setIfInBounds_toArray, List.set_cons_succ, List.set_cons_zero]
    refine stage_quiet 2 (by kernel_rfl) ?_
    simp only [List.take_succ_cons, List.take_zero, List.drop_succ_cons, List.drop_zero]
    repeat (go_big_quiet_step (fail))
    refine wpQuiet_nil ?_
    refine stage_go 14 _ (.agg #[.int .i64 (addF l (upd f p Q.zero) p q p).b, .int .i64 (addF l (upd f p Q.zero) p q p).o, .int .i64 (addF l (upd f p Q.zero) p q p).r]) (Pair S2 W b rb l (addF l (upd f p Q.zero) p q) (addL l (rset p Q.zero L) p q)) rfl Try.call14 rfl rfl (fun w' h => by have := Pair_RGet h p; rw [← hA.add l p q p] at this; exact this) (fun _ h => InGW.of h.mod) ?_
    simp only [Act.put, List.setIfInBounds_toArray, List.set_cons_succ, List.set_cons_zero]
    refine stage_quiet 3 (by kernel_rfl) ?_
    simp only [List.take_succ_cons, List.take_zero, List.drop_succ_cons, List.drop_zero]
    repeat (go_big_quiet_step (fail))
    refine wpQuiet_nil ?_
    refine stage_nil fun w2 h2 => ?_
    have hfin := hb2 (hb3 hS2 h2)
    clear hbx h2 hb2 hb3 hP2 hP3 hP hS2 hfresh hWx hfp
    go_wp2
    go_ret
    exact ⟨rfl, by rw [HF.out, HL.out]; exact hfin⟩
  · have hsF : stepF l f x = subF f (x.b % 4) (amt x) := by unfold stepF; rw [if_neg (by omega), if_pos d0]
    have hsL : stepL l L x = subL L (x.b % 4) (amt x) := by unfold stepL; rw [if_neg (by omega), if_pos d0]
    have e0 : (x.a % 8 == 0) = false := by simp; omega
    have HF := Lib.hid hsF
    have HL := Lib.hid hsL
    clear hsF hsL hV
    have e1 : ((x.a % 8 == 1) = true) ∨ ((x.a % 8 == 1) = false ∧ (x.a % 8 == 2) = true) ∨ ((x.a % 8 == 1) = false ∧ (x.a % 8 == 2) = false ∧ (x.a % 8 == 3) = true) := by simp; omega
    clear d0
    rcases e1 with e1 | ⟨e1, e2⟩ | ⟨e1, e2, e3⟩
    all_goals
      go_wp2_with fail
      generalize x.b % 4 = p at *
      generalize amt x = q at *
      generalize hVe : w1.alloc (.cells #[.int .i64 q.b, .int .i64 q.o, .int .i64 q.r] 24 (0, 0)) = W at *
      clear hVe hcx
      have hlen1 : L.length < 1000000 := by omega
      have hbx := GW.cells (S := S1) hVx (fun h => by have := hbx0 _ h; omega)
      have hfp := hPV.pos p
      refine wp_region_stage (fun w' => ∃ x : GW S1 W, w' = x.1) (Pair S1 W b rb l f L) (by kernel_rfl) (by kernel_rfl) (fun _ h => InGW.of h.mod) (hPV.then (Mod.refl _ _).drew) ?_
      refine stage_quiet 3 (by kernel_rfl) ?_
      simp only [List.take_succ_cons, List.take_zero, List.drop_succ_cons, List.drop_zero]
      repeat (go_big_quiet_step (fail))
      refine wpQuiet_nil ?_
      refine stage_go 12 _ (.int .i64 (subE (f p) q)) (Pair S1 W b rb l (subF f p q) L) rfl Try.call12 rfl rfl (fun w' h => Pair_Sub h p q) (fun _ h => InGW.of h.mod) ?_
      simp only [Act.put, List.setIfInBounds_toArray, List.set_cons_succ, List.set_cons_zero]
      refine stage_quiet 3 (by kernel_rfl) ?_
      simp only [List.take_succ_cons, List.take_zero, List.drop_succ_cons, List.drop_zero]
      repeat (go_big_quiet_step (fail))
      refine wpQuiet_nil ?_
      refine stage_go 18 _ (.int .i64 (subE (f p) q)) (Pair S1 W b rb l (subF f p q) (subL L p q)) rfl Try.call18 rfl rfl (fun w' h => by have := Pair_RSub h p q (hA p ▸ hfp) hlen1; rw [← hA p] at this; exact this) (fun _ h => InGW.of h.mod) ?_
      simp only [Act.put, List.setIfInBounds_toArray, List.set_cons_succ, List.set_cons_zero]
      refine stage_quiet 4 (by kernel_rfl) ?_
      simp only [List.take_succ_cons, List.take_zero, List.drop_succ_cons, List.drop_zero]
      repeat (go_big_quiet_step (fail))
      refine wpQuiet_nil ?_
      refine stage_go 11 _ (.agg #[.int .i64 (subF f p q p).b, .int .i64 (subF f p q p).o, .int .i64 (subF f p q p).r]) (Pair S1 W b rb l (subF f p q) (subL L p q)) rfl Try.call11 rfl rfl (fun w' h => Pair_Get h p) (fun _ h => InGW.of h.mod) ?_
      simp only [Act.put, List.setIfInBounds_toArray, List.set_cons_succ, List.set_cons_zero]
      refine stage_quiet 2 (by kernel_rfl) ?_
      simp only [List.take_succ_cons, List.take_zero, List.drop_succ_cons, List.drop_zero]
      repeat (go_big_quiet_step (fail))
      refine wpQuiet_nil ?_
      refine stage_go 14 _ (.agg #[.int .i64 (subF f p q p).b, .int .i64 (subF f p q p).o, .int .i64 (subF f p q p).r]) (Pair S1 W b rb l (subF f p q) (subL L p q)) rfl Try.call14 rfl rfl (fun w' h => by have := Pair_RGet h p; rw [← hA.sub p q p] at this; exact this) (fun _ h => InGW.of h.mod) ?_
      simp only [Act.put, List.setIfInBounds_toArray, List.set_cons_succ, List.set_cons_zero]
      refine stage_quiet 3 (by kernel_rfl) ?_
      simp only [List.take_succ_cons, List.take_zero, List.drop_succ_cons, List.drop_zero]
      repeat (go_big_quiet_step (fail))
      refine wpQuiet_nil ?_
      refine stage_nil fun w2 h2 => ?_
      have hfin := hb2 h2
      clear hbx h2 hb2 hfp hPV
      go_wp2
      go_ret
      exact ⟨rfl, by rw [HF.out, HL.out]; exact hfin⟩
  · have hsF : stepF l f x = addF l f (x.b % 4) (amt x) := by unfold stepF; rw [if_neg (by omega), if_neg (by omega)]
    have hsL : stepL l L x = addL l L (x.b % 4) (amt x) := by unfold stepL; rw [if_neg (by omega), if_neg (by omega)]
    have e0 : (x.a % 8 == 0) = false := by simp; omega
    have e1 : (x.a % 8 == 1) = false := by simp; omega
    have e2 : (x.a % 8 == 2) = false := by simp; omega
    have e3 : (x.a % 8 == 3) = false := by simp; omega
    have HF := Lib.hid hsF
    have HL := Lib.hid hsL
    clear hsF hsL hV d0
    go_wp2_with fail
    generalize x.b % 4 = p at *
    generalize amt x = q at *
    generalize hVe : w1.alloc (.cells #[.int .i64 q.b, .int .i64 q.o, .int .i64 q.r] 24 (0, 0)) = W at *
    clear hVe hcx
    have hlen : L.length < 1000000 := by omega
    have hWx := hVx
    have hP := hPV
    have hfp : (f p).pos := hP.pos p
    have hb3 : ∀ {f' L' w' S2}, (∀ x, x ∈ S2 → x < W.heap.size ∧ (x ∈ S1 ∨ W.heap.size ≤ x)) → Pair S2 W b rb l f' L' w' → Pair S1 W b rb l f' L' w' := fun hS2 hp => hp.back (Mod.refl _ _) hP.mem.1 hP.mem.2 (fun x hx => (hS2 x hx).2)
    have hfresh : ∀ {S2 : List Nat}, (∀ x, x ∈ S2 → x < W.heap.size ∧ (x ∈ S1 ∨ W.heap.size ≤ x)) → w1.heap.size ∉ S2 := fun hS2 h => by
      rcases (hS2 _ h).2 with h | h
      · have := hbx0 _ h; omega
      · omega
    clear hPV
    obtain ⟨S2, hS2, hP2⟩ := hP.base
    have hP3 := hP2 [] W (Mod.refl _ _) (by simp)
    have hbx := GW.cells (S := S2) hWx (hfresh hS2)
    refine wp_region_stage (fun w' => ∃ x : GW S2 W, w' = x.1) (Pair S2 W b rb l f L) (by kernel_rfl) (by kernel_rfl) (fun _ h => InGW.of h.mod) (hP3.then (Mod.refl _ _).drew) ?_
    refine stage_quiet 3 (by kernel_rfl) ?_
    simp only [List.take_succ_cons, List.take_zero, List.drop_succ_cons, List.drop_zero]
    repeat (go_big_quiet_step (fail))
    refine wpQuiet_nil ?_
    refine stage_go 15 _ (.int .i64 (fitsE l (f p) q)) (Pair S2 W b rb l f L) rfl Try.call15 rfl rfl (fun w' h => Pair_Fits h p q) (fun _ h => InGW.of h.mod) ?_
    simp only [Act.put, List.setIfInBounds_toArray, List.set_cons_succ, List.set_cons_zero]
    refine stage_quiet 3 (by kernel_rfl) ?_
    simp only [List.take_succ_cons, List.take_zero, List.drop_succ_cons, List.drop_zero]
    repeat (go_big_quiet_step (fail))
    refine wpQuiet_nil ?_
    refine stage_go 16 _ (.int .i64 (fitsE l (f p) q)) (Pair S2 W b rb l f L) rfl Try.call16 rfl rfl (fun w' h => by have := Pair_RFits h p q (hA p ▸ h.pos p) hqi; rw [← hA p] at this; exact this) (fun _ h => InGW.of h.mod) ?_
    simp only [Act.put, List.setIfInBounds_toArray, List.set_cons_succ, List.set_cons_zero]
    refine stage_quiet 5 (by kernel_rfl) ?_
    simp only [List.take_succ_cons, List.take_zero, List.drop_succ_cons, List.drop_zero]
    repeat (go_big_quiet_step (fail))
    refine wpQuiet_nil ?_
    refine stage_go 9 _ (.int .i64 (fitsE l (f p) q)) (Pair S2 W b rb l (addF l f p q) L) rfl Try.call9 rfl rfl (fun w' h => Pair_Add h p q) (fun _ h => InGW.of h.mod) ?_
    simp only [Act.put, List.setIfInBounds_toArray, List.set_cons_succ, List.set_cons_zero]
    refine stage_quiet 3 (by kernel_rfl) ?_
    simp only [List.take_succ_cons, List.take_zero, List.drop_succ_cons, List.drop_zero]
    repeat (go_big_quiet_step (fail))
    refine wpQuiet_nil ?_
    refine stage_go 17 _ (.int .i64 (fitsE l (f p) q)) (Pair S2 W b rb l (addF l f p q) (addL l L p q)) rfl Try.call17 rfl rfl (fun w' h => by have := Pair_RAdd h p q (hA p ▸ hfp) hqi hlen; rw [← hA p] at this; exact this) (fun _ h => InGW.of h.mod) ?_
    simp only [Act.put, List.setIfInBounds_toArray, List.set_cons_succ, List.set_cons_zero]
    refine stage_quiet 5 (by kernel_rfl) ?_
    simp only [List.take_succ_cons, List.take_zero, List.drop_succ_cons, List.drop_zero]
    repeat (go_big_quiet_step (fail))
    refine wpQuiet_nil ?_
    refine stage_go 11 _ (.agg #[.int .i64 (addF l f p q p).b, .int .i64 (addF l f p q p).o, .int .i64 (addF l f p q p).r]) (Pair S2 W b rb l (addF l f p q) (addL l L p q)) rfl Try.call11 rfl rfl (fun w' h => Pair_Get h p) (fun _ h => InGW.of h.mod) ?_
    simp only [Act.put, List.setIfInBounds_toArray, List.set_cons_succ, List.set_cons_zero]
    refine stage_quiet 2 (by kernel_rfl) ?_
    simp only [List.take_succ_cons, List.take_zero, List.drop_succ_cons, List.drop_zero]
    repeat (go_big_quiet_step (fail))
    refine wpQuiet_nil ?_
    refine stage_go 14 _ (.agg #[.int .i64 (addF l f p q p).b, .int .i64 (addF l f p q p).o, .int .i64 (addF l f p q p).r]) (Pair S2 W b rb l (addF l f p q) (addL l L p q)) rfl Try.call14 rfl rfl (fun w' h => by have := Pair_RGet h p; rw [← hA.add l p q p] at this; exact this) (fun _ h => InGW.of h.mod) ?_
    simp only [Act.put, List.setIfInBounds_toArray, List.set_cons_succ, List.set_cons_zero]
    refine stage_quiet 3 (by kernel_rfl) ?_
    simp only [List.take_succ_cons, List.take_zero, List.drop_succ_cons, List.drop_zero]
    repeat (go_big_quiet_step (fail))
    refine wpQuiet_nil ?_
    refine stage_nil fun w2 h2 => ?_
    have hfin := hb2 (hb3 hS2 h2)
    clear hbx h2 hb2 hb3 hP2 hP3 hP hS2 hfresh hWx hfp
    go_wp2
    go_ret
    exact ⟨rfl, by rw [HF.out, HL.out]; exact hfin⟩
end Go.Proofs.Ytbjjeacdgbppoaa
