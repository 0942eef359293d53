/- Handle tables: the laws' comparison. -/
import Derived.Test.YtcdmapllligjhaaTabListed
namespace Go.Proofs.Ytcdmapllligjhaa
open Go Go.RowKit Go.Stg

theorem flat_pent (P : List (Int × Ent)) : flat pent P = flat ent (P.map (·.2)) := by
  induction P with
  | nil => rfl
  | cons p P ih => rw [flat_cons, List.map_cons, flat_cons, ih]; rfl
set_option maxHeartbeats 4000000 in
set_option maxRecDepth 20000 in
theorem talike_ok {F : List Nat} {W w : World} {n : Nat} {first : Int} {x : TS} (hI : TInv n first x) (hn : n ≤ 4096) (hf1 : 1 ≤ first) {tb b pb tm c : Nat} {ev sl ev' gv lv : Value}
    (hS : Scene F W [tabC tb ev b pb sl first x, rtabC tm ev' c gv lv first x] w) :
    Calls Try.prog 19 #[.pointer (some ⟨tb, 0, none⟩), .pointer (some ⟨tm, 0, none⟩)] w fun e w' => e = .returned (.bool true) ∧ Mod [] w w' := by
  obtain ⟨f1, hT, _⟩ := hS.part 0 rfl
  obtain ⟨f2, hM, _⟩ := hS.part 1 rfl
  have hL := Lib.hid (listed_ok hI hn hf1 hT)
  have hA := Lib.hid fun w' (h : Mod [] w w') => rall_ok hI hn ((rtabC tm ev' c gv lv first x).keep hM h (by simp))
  have hSH := Lib.hid hS
  have hsn := liveP_snd x n
  have hll := liveL_len x n
  obtain ⟨E, hAg, hH⟩ := hM
  have hS2 := Scene.start hH
  obtain ⟨fv, hR⟩ := sc_rgen 2 hS2 rfl
  have hblk := Lib.hid (hS2.block 0 rfl)
  have hRH := Lib.hid hR
  clear hS hT hI hS2 hH hR hAg
  go_enter Try.func19, Try.ntmps19
  go_wp2_with fail
  refine hL.out.mono ?_
  rintro e w1 ⟨v1, rfl, hr1, hm1⟩
  rw [flat_pent, hsn] at hr1
  have hl1 : (liveP x n).length = (liveL x n).length := by rw [← hsn, List.length_map]
  rw [hl1] at hr1
  have hm1H := Lib.hid hm1
  have hr1H := Lib.hid hr1
  clear hL hsn hl1 hr1
  go_wp2_with fail
  refine (hA.out _ hm1).mono ?_
  rintro e w2 ⟨v2, rfl, hr2, hm2⟩
  have hr1H2 := Lib.hid (row_mod hr1H.out hm2 (by simp))
  have hm3 := hm1.nil_then hm2
  have hr2H := Lib.hid hr2
  have hln1 := fun ty w' => row_len (ty := ty) Try.underlying29 hr1H.out w'
  have hln2 := fun ty w' => row_len (ty := ty) Try.underlying29 hr2 w'
  clear hA hm1 hm1H hr1H hr2 hm2
  generalize liveL x n = P at *
  have hPP : ((P.length : Int) == P.length) = true := by simp
  go_wp2_with fail
  go_loopw [7] (fun i wr => ∃ k : Nat, k ≤ P.length ∧ i = .int .i64 k ∧ Mod [] w2 wr) (fun i _ => P.length - (intOf i).toNat)
  case atStart => exact ⟨0, by omega, rfl, Mod.refl _ _⟩
  case round =>
    obtain ⟨k, hk, rfl, hm4⟩ := hrel
    by_cases hlt : k < P.length
    · have q1 := row_mod hr1H2.out hm4 (by simp)
      have q2 := row_mod hr2H.out hm4 (by simp)
      obtain ⟨g1, c1, rfl, _, hg1⟩ := row_pos q1 (by omega)
      obtain ⟨g2, c2, rfl, _, hg2⟩ := row_pos q2 (by omega)
      have a0 := GW.cell1 (S := []) (row_cell ent_length q1 hlt rfl (k := 0) (by omega)) hg1 (by simp)
      have a1 := GW.cell1 (S := []) (row_cell ent_length q1 hlt rfl (k := 1) (by omega)) hg1 (by simp)
      have a2 := GW.cell1 (S := []) (row_cell ent_length q1 hlt rfl (k := 2) (by omega)) hg1 (by simp)
      have a3 := GW.cell1 (S := []) (row_cell ent_length q1 hlt rfl (k := 3) (by omega)) hg1 (by simp)
      have a4 := GW.cell1 (S := []) (row_cell ent_length q1 hlt rfl (k := 4) (by omega)) hg1 (by simp)
      have d0 := GW.cell1 (S := []) (row_cell ent_length q2 hlt rfl (k := 0) (by omega)) hg2 (by simp)
      have d1 := GW.cell1 (S := []) (row_cell ent_length q2 hlt rfl (k := 1) (by omega)) hg2 (by simp)
      have d2 := GW.cell1 (S := []) (row_cell ent_length q2 hlt rfl (k := 2) (by omega)) hg2 (by simp)
      have d3 := GW.cell1 (S := []) (row_cell ent_length q2 hlt rfl (k := 3) (by omega)) hg2 (by simp)
      have d4 := GW.cell1 (S := []) (row_cell ent_length q2 hlt rfl (k := 4) (by omega)) hg2 (by simp)
      clear q1 q2
      generalize P[k] = p at *
      rcases p with ⟨eh, eo, et, ef, el⟩
      simp only [Nat.add_zero] at a0 a1 a2 a3 a4 d0 d1 d2 d3 d4
      have s0 : (eh == eh) = true := by simp
      have s1 : (eo == eo) = true := by simp
      have s2 : (et == et) = true := by simp
      have s3 : (ef == ef) = true := by simp
      have s4 : (el == el) = true := by simp
      go_wp2_with fail
      refine wp_region_pure (by kernel_rfl) (by kernel_rfl) ?_
      refine stage_quiet 9 (by kernel_rfl) ?_
      simp only [List.take_succ_cons, List.take_zero, List.drop_succ_cons, List.drop_zero]
      repeat (go_big_quiet_step (fail))
      refine wpQuiet_nil ?_
      refine stage_nil fun w5 hm5 => ?_
      have hm5 := hm4.nil_then hm5
      clear a0 a1 a2 a3 a4 d0 d1 d2 d3 d4
      go_wp2_with fail
      go_roundw
      case rel => exact ⟨k + 1, by omega, by go_num, hm5⟩
      case measure => simp [intOf]; omega
    · have hm5 := hm3.nil_then hm4
      clear hm4 hm3 hr1H2 hr2H
      have hS5 := Lib.hid (hSH.out.then hm5)
      have hR5 := Lib.hid (hRH.out.mod hm5 (by simp))
      have k1 := GW.cells (S := []) (hm5.at hblk.out (by simp)) (by simp)
      have k2 := GW.cells (S := []) hR5.out.blk (by simp)
      have hlf := fun ty w' => hR5.out.free.len ty w'
      have hrr : (x.g.ret == x.g.ret) = true := by simp
      have hm5H := Lib.hid hm5
      clear hm5 hSH hRH hblk
      go_wp2_with fail
      by_cases hz : x.g.F.length = 0
      · have hz1 : decide (x.g.F.length = 0) = true := by simp [hz]
        rw [hz] at hlf
        refine wp_region_pure (by kernel_rfl) (by kernel_rfl) ?_
        refine stage_quiet 1 (by kernel_rfl) ?_
        simp only [List.take_succ_cons, List.take_zero, List.drop_succ_cons, List.drop_zero]
        repeat (go_big_quiet_step (fail))
        refine wpQuiet_nil ?_
        refine stage_pure 25 _ (.bool true) rfl Try.call25 rfl rfl (fun w' h => by have := sc_tfull 0 (hS5.out.then h) rfl; rw [hz1] at this; exact this) ?_
        simp only [Act.put, List.setIfInBounds_toArray, List.set_cons_succ, List.set_cons_zero]
        refine stage_quiet 12 (by kernel_rfl) ?_
        simp only [List.take_succ_cons, List.take_zero, List.drop_succ_cons, List.drop_zero]
        repeat (go_big_quiet_step (fail))
        refine wpQuiet_nil ?_
        refine stage_pure 26 _ (.int .i64 x.g.ret) rfl Try.call26 rfl rfl (fun w' h => sc_tretired 0 (hS5.out.then h) rfl) ?_
        simp only [Act.put, List.setIfInBounds_toArray, List.set_cons_succ, List.set_cons_zero]
        refine stage_quiet 11 (by kernel_rfl) ?_
        simp only [List.take_succ_cons, List.take_zero, List.drop_succ_cons, List.drop_zero]
        repeat (go_big_quiet_step (fail))
        refine wpQuiet_nil ?_
        refine stage_call_any 27 _ (fun v => ∃ a l c, v = .slice a l c) (fun v w' => Mod [] wr w' ∧ IntsAt w' v x.g.F) rfl Try.call27 rfl rfl ⟨_, none, 0, 0, rfl⟩ (fun w' h => (sc_tpool 0 (hS5.out.then h) rfl).mono fun e w'' ⟨v, he, hm7, hi⟩ => ⟨v, he, ?_, h.nil_then hm7, hi⟩) (fun v w' h => InGW.of h.1) (fun v hv => ?_)
        · rcases hi with ⟨rfl, _⟩ | ⟨_, _, _, rfl, _⟩ <;> exact ⟨_, _, _, rfl⟩
        obtain ⟨pa, pl, pc, rfl⟩ := hv
        simp only [Act.put, List.setIfInBounds_toArray, List.set_cons_succ, List.set_cons_zero]
        refine stage_quiet 7 (by kernel_rfl) ?_
        simp only [List.take_succ_cons, List.take_zero, List.drop_succ_cons, List.drop_zero]
        repeat (go_big_quiet_step (fail))
        refine wpQuiet_nil ?_
        refine stage_go 42 _ (.bool true) (fun w' => Mod [] wr w') rfl Try.call42 rfl rfl (fun w' h => (same_ints h.2 (hR5.out.free.mod h.1 (by simp))).mono fun e w'' ⟨he, hm7⟩ => ⟨he, h.1.nil_then hm7⟩) (fun _ h => InGW.of h) ?_
        simp only [Act.put, List.setIfInBounds_toArray, List.set_cons_succ, List.set_cons_zero]
        refine stage_quiet 2 (by kernel_rfl) ?_
        simp only [List.take_succ_cons, List.take_zero, List.drop_succ_cons, List.drop_zero]
        repeat (go_big_quiet_step (fail))
        refine wpQuiet_nil ?_
        refine stage_nil fun w9 hm9 => ?_
        clear k1 k2 hlf
        go_wp2_with fail
        go_ret
        exact ⟨rfl, hm5H.out.nil_then hm9⟩
      · have hz1 : decide (x.g.F.length = 0) = false := by simp [hz]
        have hz2 : ((x.g.F.length : Int) == 0) = false := by simp only [beq_eq_false_iff_ne]; omega
        clear hz
        refine wp_region_pure (by kernel_rfl) (by kernel_rfl) ?_
        refine stage_quiet 1 (by kernel_rfl) ?_
        simp only [List.take_succ_cons, List.take_zero, List.drop_succ_cons, List.drop_zero]
        repeat (go_big_quiet_step (fail))
        refine wpQuiet_nil ?_
        refine stage_pure 25 _ (.bool false) rfl Try.call25 rfl rfl (fun w' h => by have := sc_tfull 0 (hS5.out.then h) rfl; rw [hz1] at this; exact this) ?_
        simp only [Act.put, List.setIfInBounds_toArray, List.set_cons_succ, List.set_cons_zero]
        refine stage_quiet 12 (by kernel_rfl) ?_
        simp only [List.take_succ_cons, List.take_zero, List.drop_succ_cons, List.drop_zero]
        repeat (go_big_quiet_step (fail))
        refine wpQuiet_nil ?_
        refine stage_pure 26 _ (.int .i64 x.g.ret) rfl Try.call26 rfl rfl (fun w' h => sc_tretired 0 (hS5.out.then h) rfl) ?_
        simp only [Act.put, List.setIfInBounds_toArray, List.set_cons_succ, List.set_cons_zero]
        refine stage_quiet 11 (by kernel_rfl) ?_
        simp only [List.take_succ_cons, List.take_zero, List.drop_succ_cons, List.drop_zero]
        repeat (go_big_quiet_step (fail))
        refine wpQuiet_nil ?_
        refine stage_call_any 27 _ (fun v => ∃ a l c, v = .slice a l c) (fun v w' => Mod [] wr w' ∧ IntsAt w' v x.g.F) rfl Try.call27 rfl rfl ⟨_, none, 0, 0, rfl⟩ (fun w' h => (sc_tpool 0 (hS5.out.then h) rfl).mono fun e w'' ⟨v, he, hm7, hi⟩ => ⟨v, he, ?_, h.nil_then hm7, hi⟩) (fun v w' h => InGW.of h.1) (fun v hv => ?_)
        · rcases hi with ⟨rfl, _⟩ | ⟨_, _, _, rfl, _⟩ <;> exact ⟨_, _, _, rfl⟩
        obtain ⟨pa, pl, pc, rfl⟩ := hv
        simp only [Act.put, List.setIfInBounds_toArray, List.set_cons_succ, List.set_cons_zero]
        refine stage_quiet 7 (by kernel_rfl) ?_
        simp only [List.take_succ_cons, List.take_zero, List.drop_succ_cons, List.drop_zero]
        repeat (go_big_quiet_step (fail))
        refine wpQuiet_nil ?_
        refine stage_go 42 _ (.bool true) (fun w' => Mod [] wr w') rfl Try.call42 rfl rfl (fun w' h => (same_ints h.2 (hR5.out.free.mod h.1 (by simp))).mono fun e w'' ⟨he, hm7⟩ => ⟨he, h.1.nil_then hm7⟩) (fun _ h => InGW.of h) ?_
        simp only [Act.put, List.setIfInBounds_toArray, List.set_cons_succ, List.set_cons_zero]
        refine stage_quiet 2 (by kernel_rfl) ?_
        simp only [List.take_succ_cons, List.take_zero, List.drop_succ_cons, List.drop_zero]
        repeat (go_big_quiet_step (fail))
        refine wpQuiet_nil ?_
        refine stage_nil fun w9 hm9 => ?_
        clear k1 k2 hlf
        go_wp2_with fail
        go_ret
        exact ⟨rfl, hm5H.out.nil_then hm9⟩
end Go.Proofs.Ytcdmapllligjhaa
