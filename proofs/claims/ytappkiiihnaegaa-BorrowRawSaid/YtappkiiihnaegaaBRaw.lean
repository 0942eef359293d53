/- BorrowRaw: the walk of the law. -/
import Derived.Test.YtappkiiihnaegaaBLike
import Derived.Test.YtappkiiihnaegaaBSteps
import Derived.Test.YtappkiiihnaegaaBar
namespace Go.Proofs.Ytappkiiihnaegaa
open Go Go.RowKit Go.Stg

set_option maxHeartbeats 8000000 in
set_option maxRecDepth 20000 in
theorem raw_walk (sv : Value) (xs : List X4) (o h md ac : Int) (ow : Bool) (w : World) (hs : Steps4At w sv xs) :
    Calls Try.prog 8 #[sv, .int .i64 o, .int .i64 h, .int .i64 md, .int .i64 ac, .bool ow] w fun e w' => e = .returned (.bool true) ∧ Mod [] w w' := by
  have hln := fun ty w => hs.len ty w
  have hlm := hs.small
  have hsH := Lib.hid hs
  clear hs
  go_enter Try.func8, Try.ntmps8
  go_wp2_with fail
  refine (new_sc (Scene.empty w)).mono ?_
  rintro e w1 ⟨rfl, hS1⟩
  generalize w.heap.size = b at *
  have hS2 := Lib.hid (rled_alloc hS1).swap
  clear hS1
  go_wp2_with fail
  generalize w1.heap.size = q at *
  generalize w1.alloc (.cells #[.slice none 0 0] 38) = w2 at *
  go_loopw [15] (fun i wr => ∃ (k : Nat) (L : List Bor), k ≤ xs.length ∧ k ≤ 16 ∧ i = .int .i64 k ∧ Scene [] w [ledC b L, rledC q L] wr ∧ BInv k L) (fun i _ => 16 - (intOf i).toNat)
  case atStart => exact ⟨0, [], by omega, by omega, rfl, hS2.out, BInv.nil⟩
  case round =>
    obtain ⟨k, L, hk1, hk2, rfl, hSx, hI⟩ := hrel
    have hSH := Lib.hid hSx
    have hIH := Lib.hid hI
    clear hS2 hSx hI
    by_cases hgo : k < xs.length ∧ k < 16
    · obtain ⟨hlt, hlt2⟩ := hgo
      have hk40 : decide ((k : Int) < 16) = true := by rw [decide_eq_true_eq]; omega
      rcases hsH.out with ⟨_, rfl⟩ | ⟨sb, so, cap, rfl, h2, h3, h4⟩
      · simp at hlt
      · obtain ⟨⟨a0, b0, e0, d0⟩, c0, c1, c2, c3⟩ := h4 k hlt
        clear h4
        have c0 := (cell_mod hSH.out.mod h2 (by simp)).trans c0
        have c1 := (cell_mod hSH.out.mod h2 (by simp)).trans c1
        have c2 := (cell_mod hSH.out.mod h2 (by simp)).trans c2
        have c3 := (cell_mod hSH.out.mod h2 (by simp)).trans c3
        generalize hx0 : xs[k] = x0 at *
        clear hx0
        rcases x0 with ⟨xa, xb, xc, xd⟩
        simp only at a0 b0 e0 d0 c0 c1 c2 c3
        go_wp2_with fail
        refine (step_ok hSH.out hIH.out (by omega) xa xb xc xd a0 b0 e0 d0).mono ?_
        rintro e w3 ⟨rfl, hS3⟩
        have hS3H := Lib.hid hS3
        have hI2 := Lib.hid (hIH.out.step xa xb xc xd)
        clear hS3 c0 c1 c2 c3 hSH hIH
        go_wp2_with fail
        go_roundw
        case rel => exact ⟨k + 1, _, by omega, by omega, by go_num, hS3H.out, hI2.out⟩
        case measure => simp [intOf]; omega
    · have hcase : k = xs.length ∨ (k < xs.length ∧ k = 16) := by omega
      clear hgo
      rcases hcase with rfl | ⟨hlt, rfl⟩
      · generalize hkk : xs.length = k at *
        go_wp2_with fail
        refine (sc_access 0 hSH.out hIH.out (by omega) rfl o h ow ac).mono ?_
        rintro e w3 ⟨rfl, hm3⟩
        have hS3 := Lib.hid (hSH.out.then hm3)
        clear hm3 hSH
        go_wp2_with fail
        refine (sc_raccess 1 hS3.out hIH.out (by omega) rfl o h ow ac).mono ?_
        rintro e w4 ⟨rfl, hm4⟩
        have hS4 := Lib.hid (hS3.out.then hm4)
        clear hm4 hS3
        go_wp2_with fail
        refine (sc_lend 0 hS4.out hIH.out (by omega) rfl o h md).mono ?_
        rintro e w5 ⟨rfl, hS5⟩
        have hS5H := Lib.hid hS5
        clear hS5 hS4
        go_wp2_with fail
        refine (sc_rlend 1 hS5H.out hIH.out (by omega) rfl o h md).mono ?_
        rintro e w6 ⟨rfl, hS6⟩
        have hS6H := Lib.hid hS6
        have hI6 := Lib.hid (hIH.out.lend o h md)
        clear hS6 hS5H
        go_wp2_with fail
        refine (sc_lend 0 hS6H.out hI6.out (by omega) rfl o h 1).mono ?_
        rintro e w7 ⟨rfl, hS7⟩
        have hS7H := Lib.hid hS7
        clear hS7 hS6H
        go_wp2_with fail
        refine (sc_rlend 1 hS7H.out hI6.out (by omega) rfl o h 1).mono ?_
        rintro e w8 ⟨rfl, hS8⟩
        have hS8H := Lib.hid hS8
        have hI8 := Lib.hid (hI6.out.lend o h 1)
        clear hS8 hS7H
        go_wp2_with fail
        have hS9 : Hid (Scene [] w [ledC b (lendL (lendL L o h md) o h 1), rledC q (lendL (lendL L o h md) o h 1)] w8) := Lib.hid hS8H.out
        have hI9 : Hid (BInv 18 (lendL (lendL L o h md) o h 1)) := Lib.hid (hI8.out.up (by omega))
        generalize lendL (lendL L o h md) o h 1 = M at *
        clear hS8H hI8 hI6 hIH
        refine wp_region_bar 45 (fun w' => ∃ y : GW [] w, w' = y.1) (fun w' => Scene [] w [ledC b M, rledC q M] w') (by kernel_rfl) (by kernel_rfl) (by kernel_rfl) (by kernel_rfl) (by kernel_rfl) (fun _ h => InGW.of h.mod) hS9.out.drew ?_
        clear hS9
        simp only [List.take_succ_cons, List.take_zero, List.drop_succ_cons, List.drop_zero]
        refine stage_go 15 _ (.bool true) (fun w' => Scene [] w [ledC b M, rledC q M] w') rfl Try.call15 rfl rfl (fun w' hw => (awake_ok w').mono fun e w'' ⟨he, hm⟩ => ⟨he, hw.then hm⟩) (fun _ hw => InGW.of hw.mod) ?_
        simp only [Act.put, List.setIfInBounds_toArray, List.set_cons_succ, List.set_cons_zero]
        refine stage_quiet 14 (by kernel_rfl) ?_
        simp only [List.take_succ_cons, List.take_zero, List.drop_succ_cons, List.drop_zero]
        repeat (go_big_quiet_step (fail))
        refine wpQuiet_nil ?_
        refine stage_go 21 _ (.bool true) (fun w' => Scene [] w [ledC b M, rledC q M] w') rfl Try.call21 rfl rfl (fun w' hw => (alike_ok hw hI9.out (by omega) o h).mono fun e w'' ⟨he, hm⟩ => ⟨he, hw.then hm⟩) (fun _ hw => InGW.of hw.mod) ?_
        simp only [Act.put, List.setIfInBounds_toArray, List.set_cons_succ, List.set_cons_zero]
        refine stage_quiet 5 (by kernel_rfl) ?_
        simp only [List.take_succ_cons, List.take_zero, List.drop_succ_cons, List.drop_zero]
        repeat (go_big_quiet_step (fail))
        refine wpQuiet_nil ?_
        refine stage_go 14 _ (.int .i64 (relE M (o, h))) (fun w' => Scene [] w [ledC b (relL M (o, h)), rledC q M] w') rfl Try.call14 rfl rfl (fun w' hw => sc_release 0 hw hI9.out (by omega) rfl o h) (fun _ hw => InGW.of hw.mod) ?_
        simp only [Act.put, List.setIfInBounds_toArray, List.set_cons_succ, List.set_cons_zero]
        refine stage_quiet 3 (by kernel_rfl) ?_
        simp only [List.take_succ_cons, List.take_zero, List.drop_succ_cons, List.drop_zero]
        repeat (go_big_quiet_step (fail))
        refine wpQuiet_nil ?_
        refine stage_go 24 _ (.int .i64 (relE M (o, h))) (fun w' => Scene [] w [ledC b (relL M (o, h)), rledC q (relL M (o, h))] w') rfl Try.call24 rfl rfl (fun w' hw => sc_rrelease 1 hw hI9.out (by omega) rfl o h) (fun _ hw => InGW.of hw.mod) ?_
        simp only [Act.put, List.setIfInBounds_toArray, List.set_cons_succ, List.set_cons_zero]
        have hI10 := Lib.hid (hI9.out.rel (o, h))
        generalize relL M (o, h) = M1 at *
        have ze : ∀ v : Int, (v == v) = true := fun v => by simp
        refine stage_quiet 5 (by kernel_rfl) ?_
        simp only [List.take_succ_cons, List.take_zero, List.drop_succ_cons, List.drop_zero]
        repeat (go_big_quiet_step (fail))
        refine wpQuiet_nil ?_
        refine stage_go 25 _ (.int .i64 ((heldH M1 h).length : Nat)) (fun w' => Scene [] w [ledC b (cut M1 fun x => decide (x.1.2 = h)), rledC q M1] w') rfl Try.call25 rfl rfl (fun w' hw => sc_endH 0 hw hI10.out (by omega) rfl h) (fun _ hw => InGW.of hw.mod) ?_
        simp only [Act.put, List.setIfInBounds_toArray, List.set_cons_succ, List.set_cons_zero]
        refine stage_quiet 2 (by kernel_rfl) ?_
        simp only [List.take_succ_cons, List.take_zero, List.drop_succ_cons, List.drop_zero]
        repeat (go_big_quiet_step (fail))
        refine wpQuiet_nil ?_
        refine stage_go 26 _ (.int .i64 ((heldH M1 h).length : Nat)) (fun w' => Scene [] w [ledC b (cut M1 fun x => decide (x.1.2 = h)), rledC q (cut M1 fun x => decide (x.1.2 = h))] w') rfl Try.call26 rfl rfl (fun w' hw => sc_rendH 1 hw hI10.out (by omega) rfl h) (fun _ hw => InGW.of hw.mod) ?_
        simp only [Act.put, List.setIfInBounds_toArray, List.set_cons_succ, List.set_cons_zero]
        have hI11 := Lib.hid (hI10.out.cut fun x => decide (x.1.2 = h))
        generalize (cut M1 fun x => decide (x.1.2 = h)) = M2 at *
        refine stage_quiet 5 (by kernel_rfl) ?_
        simp only [List.take_succ_cons, List.take_zero, List.drop_succ_cons, List.drop_zero]
        repeat (go_big_quiet_step (fail))
        refine wpQuiet_nil ?_
        refine stage_call_any 27 _ (fun u => ∃ a m c, u = .slice a m c) (fun u w' => Scene [] w [rowC u (ofO M2 o).length 25 4 (flat bcell (ofO M2 o)), ledC b (cut M2 fun x => decide (x.1.1 = o)), rledC q M2] w') rfl Try.call27 rfl rfl ⟨_, none, 0, 0, rfl⟩ (fun w' hw => (sc_endO 0 hw hI11.out (by omega) rfl o).mono fun e w'' ⟨u, he, hS⟩ => ⟨u, he, row_slice (hS.row 0 rfl), hS⟩) (fun u w' hw => InGW.of hw.mod) (fun u hu => ?_)
        obtain ⟨ua, um, uc, rfl⟩ := hu
        simp only [Act.put, List.setIfInBounds_toArray, List.set_cons_succ, List.set_cons_zero]
        refine stage_quiet 2 (by kernel_rfl) ?_
        simp only [List.take_succ_cons, List.take_zero, List.drop_succ_cons, List.drop_zero]
        repeat (go_big_quiet_step (fail))
        refine wpQuiet_nil ?_
        refine stage_call_any 28 _ (fun u => ∃ a m c, u = .slice a m c) (fun u w' => Scene [] w [rowC u (ofO M2 o).length 25 4 (flat bcell (ofO M2 o)), rowC (.slice ua um uc) (ofO M2 o).length 25 4 (flat bcell (ofO M2 o)), ledC b (cut M2 fun x => decide (x.1.1 = o)), rledC q (cut M2 fun x => decide (x.1.1 = o))] w') rfl Try.call28 rfl rfl ⟨_, none, 0, 0, rfl⟩ (fun w' hw => (sc_rendO 2 hw hI11.out (by omega) rfl o).mono fun e w'' ⟨u, he, hS⟩ => ⟨u, he, row_slice (hS.row 0 rfl), hS⟩) (fun u w' hw => InGW.of hw.mod) (fun u hu => ?_)
        obtain ⟨va, vm, vc, rfl⟩ := hu
        simp only [Act.put, List.setIfInBounds_toArray, List.set_cons_succ, List.set_cons_zero]
        have hlo : (ofO M2 o).length ≤ 1000000 := Nat.le_trans (List.length_filter_le _ _) (Nat.le_trans hI11.out.len (by omega))
        have hI12 := Lib.hid (hI11.out.cut fun x => decide (x.1.1 = o))
        refine stage_go 18 _ (.bool true) (fun w' => Scene [] w [rowC (.slice va vm vc) (ofO M2 o).length 25 4 (flat bcell (ofO M2 o)), rowC (.slice ua um uc) (ofO M2 o).length 25 4 (flat bcell (ofO M2 o)), ledC b (cut M2 fun x => decide (x.1.1 = o)), rledC q (cut M2 fun x => decide (x.1.1 = o))] w') rfl Try.call18 rfl rfl (fun w' hw => (same_ok (hw.row 1 rfl) (hw.row 0 rfl) hlo).mono fun e w'' ⟨he, hm⟩ => ⟨he, hw.then hm⟩) (fun _ hw => InGW.of hw.mod) ?_
        simp only [Act.put, List.setIfInBounds_toArray, List.set_cons_succ, List.set_cons_zero]
        refine stage_nil fun w9 hw9 => ?_
        have hV : Hid (Scene [] w [ledC b (cut M2 fun x => decide (x.1.1 = o)), rledC q (cut M2 fun x => decide (x.1.1 = o))] w9) := Lib.hid ((hw9.erase 0).erase 0)
        generalize (cut M2 fun x => decide (x.1.1 = o)) = M3 at *
        clear hw9 hlo
        have hll : M3.length ≤ 1000000 := Nat.le_trans hI12.out.len (by omega)
        obtain ⟨f0, hrl⟩ := sc_rled 1 hV.out rfl
        obtain ⟨mv, hb, hr, -⟩ := RLedAt.parts hrl
        obtain ⟨ma, ml, mc, rfl⟩ := row_slice hr
        have hrH := Lib.hid hr
        have k3 := GW.cells (S := []) hb (by simp)
        clear hrl hb hr
        refine ⟨fun w' => ∃ y : GW [] w9, w' = y.1, fun w' => Mod [] w9 w', Mod.refl _ _, fun _ h => InGW.of h, ?_⟩
        refine stage_quiet 3 (by kernel_rfl) ?_
        simp only [List.take_succ_cons, List.take_zero, List.drop_succ_cons, List.drop_zero]
        repeat (go_big_quiet_step (fail))
        refine wpQuiet_nil ?_
        refine stage_call_any 19 _ (fun u => ∃ a m c, u = .slice a m c) (fun u w' => Mod [] w9 w' ∧ w'.ownsRow w9.heap.size 25 4 u M3.length (flat bcell M3)) rfl Try.call19 rfl rfl ⟨_, none, 0, 0, rfl⟩ (fun w' hw => (sc_listed 0 (hV.out.then hw) hI12.out (by omega) rfl).mono fun e w'' ⟨u, he, hr, hm⟩ => ⟨u, he, row_slice hr, hw.nil_then hm, row_base hr hw.size⟩) (fun u w' h => InGW.of h.1) (fun u hu => ?_)
        obtain ⟨la, lm, lc, rfl⟩ := hu
        simp only [Act.put, List.setIfInBounds_toArray, List.set_cons_succ, List.set_cons_zero]
        refine stage_quiet 4 (by kernel_rfl) ?_
        simp only [List.take_succ_cons, List.take_zero, List.drop_succ_cons, List.drop_zero]
        repeat (go_big_quiet_step (fail))
        refine wpQuiet_nil ?_
        refine stage_go 18 _ (.bool true) (fun w' => Mod [] w9 w') rfl Try.call18 rfl rfl (fun w' hw => (same_ok hw.2 (row_mod hrH.out hw.1 (by simp)) hll).mono fun e w'' ⟨he, hm⟩ => ⟨he, hw.1.nil_then hm⟩) (fun _ h => InGW.of h) ?_
        simp only [Act.put, List.setIfInBounds_toArray, List.set_cons_succ, List.set_cons_zero]
        refine stage_quiet 2 (by kernel_rfl) ?_
        simp only [List.take_succ_cons, List.take_zero, List.drop_succ_cons, List.drop_zero]
        repeat (go_big_quiet_step (fail))
        refine wpQuiet_nil ?_
        refine stage_nil fun w10 hw10 => ?_
        have hm10 := Lib.hid (hV.out.mod.nil_then hw10)
        clear k3 hw10 hV
        go_wp2_with fail
        go_ret
        exact ⟨rfl, hm10.out⟩
      · go_wp2_with fail
        refine (sc_access 0 hSH.out hIH.out (by omega) rfl o h ow ac).mono ?_
        rintro e w3 ⟨rfl, hm3⟩
        have hS3 := Lib.hid (hSH.out.then hm3)
        clear hm3 hSH
        go_wp2_with fail
        refine (sc_raccess 1 hS3.out hIH.out (by omega) rfl o h ow ac).mono ?_
        rintro e w4 ⟨rfl, hm4⟩
        have hS4 := Lib.hid (hS3.out.then hm4)
        clear hm4 hS3
        go_wp2_with fail
        refine (sc_lend 0 hS4.out hIH.out (by omega) rfl o h md).mono ?_
        rintro e w5 ⟨rfl, hS5⟩
        have hS5H := Lib.hid hS5
        clear hS5 hS4
        go_wp2_with fail
        refine (sc_rlend 1 hS5H.out hIH.out (by omega) rfl o h md).mono ?_
        rintro e w6 ⟨rfl, hS6⟩
        have hS6H := Lib.hid hS6
        have hI6 := Lib.hid (hIH.out.lend o h md)
        clear hS6 hS5H
        go_wp2_with fail
        refine (sc_lend 0 hS6H.out hI6.out (by omega) rfl o h 1).mono ?_
        rintro e w7 ⟨rfl, hS7⟩
        have hS7H := Lib.hid hS7
        clear hS7 hS6H
        go_wp2_with fail
        refine (sc_rlend 1 hS7H.out hI6.out (by omega) rfl o h 1).mono ?_
        rintro e w8 ⟨rfl, hS8⟩
        have hS8H := Lib.hid hS8
        have hI8 := Lib.hid (hI6.out.lend o h 1)
        clear hS8 hS7H
        go_wp2_with fail
        have hS9 : Hid (Scene [] w [ledC b (lendL (lendL L o h md) o h 1), rledC q (lendL (lendL L o h md) o h 1)] w8) := Lib.hid hS8H.out
        have hI9 : Hid (BInv 18 (lendL (lendL L o h md) o h 1)) := Lib.hid (hI8.out.up (by omega))
        generalize lendL (lendL L o h md) o h 1 = M at *
        clear hS8H hI8 hI6 hIH
        refine wp_region_bar 45 (fun w' => ∃ y : GW [] w, w' = y.1) (fun w' => Scene [] w [ledC b M, rledC q M] w') (by kernel_rfl) (by kernel_rfl) (by kernel_rfl) (by kernel_rfl) (by kernel_rfl) (fun _ h => InGW.of h.mod) hS9.out.drew ?_
        clear hS9
        simp only [List.take_succ_cons, List.take_zero, List.drop_succ_cons, List.drop_zero]
        refine stage_go 15 _ (.bool true) (fun w' => Scene [] w [ledC b M, rledC q M] w') rfl Try.call15 rfl rfl (fun w' hw => (awake_ok w').mono fun e w'' ⟨he, hm⟩ => ⟨he, hw.then hm⟩) (fun _ hw => InGW.of hw.mod) ?_
        simp only [Act.put, List.setIfInBounds_toArray, List.set_cons_succ, List.set_cons_zero]
        refine stage_quiet 14 (by kernel_rfl) ?_
        simp only [List.take_succ_cons, List.take_zero, List.drop_succ_cons, List.drop_zero]
        repeat (go_big_quiet_step (fail))
        refine wpQuiet_nil ?_
        refine stage_go 21 _ (.bool true) (fun w' => Scene [] w [ledC b M, rledC q M] w') rfl Try.call21 rfl rfl (fun w' hw => (alike_ok hw hI9.out (by omega) o h).mono fun e w'' ⟨he, hm⟩ => ⟨he, hw.then hm⟩) (fun _ hw => InGW.of hw.mod) ?_
        simp only [Act.put, List.setIfInBounds_toArray, List.set_cons_succ, List.set_cons_zero]
        refine stage_quiet 5 (by kernel_rfl) ?_
        simp only [List.take_succ_cons, List.take_zero, List.drop_succ_cons, List.drop_zero]
        repeat (go_big_quiet_step (fail))
        refine wpQuiet_nil ?_
        refine stage_go 14 _ (.int .i64 (relE M (o, h))) (fun w' => Scene [] w [ledC b (relL M (o, h)), rledC q M] w') rfl Try.call14 rfl rfl (fun w' hw => sc_release 0 hw hI9.out (by omega) rfl o h) (fun _ hw => InGW.of hw.mod) ?_
        simp only [Act.put, List.setIfInBounds_toArray, List.set_cons_succ, List.set_cons_zero]
        refine stage_quiet 3 (by kernel_rfl) ?_
        simp only [List.take_succ_cons, List.take_zero, List.drop_succ_cons, List.drop_zero]
        repeat (go_big_quiet_step (fail))
        refine wpQuiet_nil ?_
        refine stage_go 24 _ (.int .i64 (relE M (o, h))) (fun w' => Scene [] w [ledC b (relL M (o, h)), rledC q (relL M (o, h))] w') rfl Try.call24 rfl rfl (fun w' hw => sc_rrelease 1 hw hI9.out (by omega) rfl o h) (fun _ hw => InGW.of hw.mod) ?_
        simp only [Act.put, List.setIfInBounds_toArray, List.set_cons_succ, List.set_cons_zero]
        have hI10 := Lib.hid (hI9.out.rel (o, h))
        generalize relL M (o, h) = M1 at *
        have ze : ∀ v : Int, (v == v) = true := fun v => by simp
        refine stage_quiet 5 (by kernel_rfl) ?_
        simp only [List.take_succ_cons, List.take_zero, List.drop_succ_cons, List.drop_zero]
        repeat (go_big_quiet_step (fail))
        refine wpQuiet_nil ?_
        refine stage_go 25 _ (.int .i64 ((heldH M1 h).length : Nat)) (fun w' => Scene [] w [ledC b (cut M1 fun x => decide (x.1.2 = h)), rledC q M1] w') rfl Try.call25 rfl rfl (fun w' hw => sc_endH 0 hw hI10.out (by omega) rfl h) (fun _ hw => InGW.of hw.mod) ?_
        simp only [Act.put, List.setIfInBounds_toArray, List.set_cons_succ, List.set_cons_zero]
        refine stage_quiet 2 (by kernel_rfl) ?_
        simp only [List.take_succ_cons, List.take_zero, List.drop_succ_cons, List.drop_zero]
        repeat (go_big_quiet_step (fail))
        refine wpQuiet_nil ?_
        refine stage_go 26 _ (.int .i64 ((heldH M1 h).length : Nat)) (fun w' => Scene [] w [ledC b (cut M1 fun x => decide (x.1.2 = h)), rledC q (cut M1 fun x => decide (x.1.2 = h))] w') rfl Try.call26 rfl rfl (fun w' hw => sc_rendH 1 hw hI10.out (by omega) rfl h) (fun _ hw => InGW.of hw.mod) ?_
        simp only [Act.put, List.setIfInBounds_toArray, List.set_cons_succ, List.set_cons_zero]
        have hI11 := Lib.hid (hI10.out.cut fun x => decide (x.1.2 = h))
        generalize (cut M1 fun x => decide (x.1.2 = h)) = M2 at *
        refine stage_quiet 5 (by kernel_rfl) ?_
        simp only [List.take_succ_cons, List.take_zero, List.drop_succ_cons, List.drop_zero]
        repeat (go_big_quiet_step (fail))
        refine wpQuiet_nil ?_
        refine stage_call_any 27 _ (fun u => ∃ a m c, u = .slice a m c) (fun u w' => Scene [] w [rowC u (ofO M2 o).length 25 4 (flat bcell (ofO M2 o)), ledC b (cut M2 fun x => decide (x.1.1 = o)), rledC q M2] w') rfl Try.call27 rfl rfl ⟨_, none, 0, 0, rfl⟩ (fun w' hw => (sc_endO 0 hw hI11.out (by omega) rfl o).mono fun e w'' ⟨u, he, hS⟩ => ⟨u, he, row_slice (hS.row 0 rfl), hS⟩) (fun u w' hw => InGW.of hw.mod) (fun u hu => ?_)
        obtain ⟨ua, um, uc, rfl⟩ := hu
        simp only [Act.put, List.setIfInBounds_toArray, List.set_cons_succ, List.set_cons_zero]
        refine stage_quiet 2 (by kernel_rfl) ?_
        simp only [List.take_succ_cons, List.take_zero, List.drop_succ_cons, List.drop_zero]
        repeat (go_big_quiet_step (fail))
        refine wpQuiet_nil ?_
        refine stage_call_any 28 _ (fun u => ∃ a m c, u = .slice a m c) (fun u w' => Scene [] w [rowC u (ofO M2 o).length 25 4 (flat bcell (ofO M2 o)), rowC (.slice ua um uc) (ofO M2 o).length 25 4 (flat bcell (ofO M2 o)), ledC b (cut M2 fun x => decide (x.1.1 = o)), rledC q (cut M2 fun x => decide (x.1.1 = o))] w') rfl Try.call28 rfl rfl ⟨_, none, 0, 0, rfl⟩ (fun w' hw => (sc_rendO 2 hw hI11.out (by omega) rfl o).mono fun e w'' ⟨u, he, hS⟩ => ⟨u, he, row_slice (hS.row 0 rfl), hS⟩) (fun u w' hw => InGW.of hw.mod) (fun u hu => ?_)
        obtain ⟨va, vm, vc, rfl⟩ := hu
        simp only [Act.put, List.setIfInBounds_toArray, List.set_cons_succ, List.set_cons_zero]
        have hlo : (ofO M2 o).length ≤ 1000000 := Nat.le_trans (List.length_filter_le _ _) (Nat.le_trans hI11.out.len (by omega))
        have hI12 := Lib.hid (hI11.out.cut fun x => decide (x.1.1 = o))
        refine stage_go 18 _ (.bool true) (fun w' => Scene [] w [rowC (.slice va vm vc) (ofO M2 o).length 25 4 (flat bcell (ofO M2 o)), rowC (.slice ua um uc) (ofO M2 o).length 25 4 (flat bcell (ofO M2 o)), ledC b (cut M2 fun x => decide (x.1.1 = o)), rledC q (cut M2 fun x => decide (x.1.1 = o))] w') rfl Try.call18 rfl rfl (fun w' hw => (same_ok (hw.row 1 rfl) (hw.row 0 rfl) hlo).mono fun e w'' ⟨he, hm⟩ => ⟨he, hw.then hm⟩) (fun _ hw => InGW.of hw.mod) ?_
        simp only [Act.put, List.setIfInBounds_toArray, List.set_cons_succ, List.set_cons_zero]
        refine stage_nil fun w9 hw9 => ?_
        have hV : Hid (Scene [] w [ledC b (cut M2 fun x => decide (x.1.1 = o)), rledC q (cut M2 fun x => decide (x.1.1 = o))] w9) := Lib.hid ((hw9.erase 0).erase 0)
        generalize (cut M2 fun x => decide (x.1.1 = o)) = M3 at *
        clear hw9 hlo
        have hll : M3.length ≤ 1000000 := Nat.le_trans hI12.out.len (by omega)
        obtain ⟨f0, hrl⟩ := sc_rled 1 hV.out rfl
        obtain ⟨mv, hb, hr, -⟩ := RLedAt.parts hrl
        obtain ⟨ma, ml, mc, rfl⟩ := row_slice hr
        have hrH := Lib.hid hr
        have k3 := GW.cells (S := []) hb (by simp)
        clear hrl hb hr
        refine ⟨fun w' => ∃ y : GW [] w9, w' = y.1, fun w' => Mod [] w9 w', Mod.refl _ _, fun _ h => InGW.of h, ?_⟩
        refine stage_quiet 3 (by kernel_rfl) ?_
        simp only [List.take_succ_cons, List.take_zero, List.drop_succ_cons, List.drop_zero]
        repeat (go_big_quiet_step (fail))
        refine wpQuiet_nil ?_
        refine stage_call_any 19 _ (fun u => ∃ a m c, u = .slice a m c) (fun u w' => Mod [] w9 w' ∧ w'.ownsRow w9.heap.size 25 4 u M3.length (flat bcell M3)) rfl Try.call19 rfl rfl ⟨_, none, 0, 0, rfl⟩ (fun w' hw => (sc_listed 0 (hV.out.then hw) hI12.out (by omega) rfl).mono fun e w'' ⟨u, he, hr, hm⟩ => ⟨u, he, row_slice hr, hw.nil_then hm, row_base hr hw.size⟩) (fun u w' h => InGW.of h.1) (fun u hu => ?_)
        obtain ⟨la, lm, lc, rfl⟩ := hu
        simp only [Act.put, List.setIfInBounds_toArray, List.set_cons_succ, List.set_cons_zero]
        refine stage_quiet 4 (by kernel_rfl) ?_
        simp only [List.take_succ_cons, List.take_zero, List.drop_succ_cons, List.drop_zero]
        repeat (go_big_quiet_step (fail))
        refine wpQuiet_nil ?_
        refine stage_go 18 _ (.bool true) (fun w' => Mod [] w9 w') rfl Try.call18 rfl rfl (fun w' hw => (same_ok hw.2 (row_mod hrH.out hw.1 (by simp)) hll).mono fun e w'' ⟨he, hm⟩ => ⟨he, hw.1.nil_then hm⟩) (fun _ h => InGW.of h) ?_
        simp only [Act.put, List.setIfInBounds_toArray, List.set_cons_succ, List.set_cons_zero]
        refine stage_quiet 2 (by kernel_rfl) ?_
        simp only [List.take_succ_cons, List.take_zero, List.drop_succ_cons, List.drop_zero]
        repeat (go_big_quiet_step (fail))
        refine wpQuiet_nil ?_
        refine stage_nil fun w10 hw10 => ?_
        have hm10 := Lib.hid (hV.out.mod.nil_then hw10)
        clear k3 hw10 hV
        go_wp2_with fail
        go_ret
        exact ⟨rfl, hm10.out⟩
end Go.Proofs.Ytappkiiihnaegaa
