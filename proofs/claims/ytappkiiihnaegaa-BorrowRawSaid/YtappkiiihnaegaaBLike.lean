/- Borrows: the laws' alike. -/
import Derived.Test.YtappkiiihnaegaaBLaw
namespace Go.Proofs.Ytappkiiihnaegaa
open Go Go.RowKit Go.Stg

set_option maxHeartbeats 4000000 in
set_option maxRecDepth 20000 in
theorem alike_ok {F : List Nat} {W w : World} {cs : List Comp} {b rb n : Nat} {L : List Bor} (h : Scene F W (ledC b L :: rledC rb L :: cs) w) (hI : BInv n L) (hn : n ≤ 1000) (o k : Int) :
    Calls Try.prog 21 #[.pointer (some ⟨b, 0, none⟩), .pointer (some ⟨rb, 0, none⟩), .int .i64 o, .int .i64 k] w fun e w' => e = .returned (.bool true) ∧ Mod [] w w' := by
  have hSH := Lib.hid h
  have hIH := Lib.hid hI
  have hll : L.length ≤ 1000000 := Nat.le_trans hI.len (by omega)
  have hh1 := sc_holds 0 h hI hn rfl o k
  have hh2 := Lib.hid fun w' (hm : Mod [] w w') => sc_rholds 1 (h.then hm) hI hn rfl o k
  rw [foundV_eq] at hh1
  rw [foundV_eq] at hh2
  generalize (getB L (o, k)).getD b0 = x at *
  generalize (getB L (o, k)).isSome = fl at *
  obtain ⟨⟨xo, xh⟩, xm, xc⟩ := x
  have hh1H := Lib.hid hh1
  clear h hI hh1
  go_enter Try.func21, Try.ntmps21
  go_wp2_with fail
  refine hh1H.out.mono ?_
  unfold bv
  rintro e w1 ⟨rfl, hm1⟩
  have e1 := at_alloc w1 (.cells #[.int .i64 xo, .int .i64 xh, .int .i64 xm, .int .i64 xc] 25)
  have e1H := Lib.hid e1
  have m2H := Lib.hid (hm1.alloc (.cells #[.int .i64 xo, .int .i64 xh, .int .i64 xm, .int .i64 xc] 25))
  clear hm1 hh1H e1
  go_wp2_with fail
  generalize w1.heap.size = y1 at *
  generalize w1.alloc (.cells #[.int .i64 xo, .int .i64 xh, .int .i64 xm, .int .i64 xc] 25) = w2 at *
  refine (hh2.out _ m2H.out).mono ?_
  unfold bv
  rintro e w3 ⟨rfl, hm3⟩
  have e2 := at_alloc w3 (.cells #[.int .i64 xo, .int .i64 xh, .int .i64 xm, .int .i64 xc] 25)
  have e1' := at_alloc_old (o := .cells #[.int .i64 xo, .int .i64 xh, .int .i64 xm, .int .i64 xc] 25) (hm3.at e1H.out (by simp))
  have e2H := Lib.hid e2
  have e1'H := Lib.hid e1'
  have m4H := Lib.hid ((m2H.out.nil_then hm3).alloc (.cells #[.int .i64 xo, .int .i64 xh, .int .i64 xm, .int .i64 xc] 25))
  clear hm3 hh2 e2 e1' e1H m2H
  go_wp2_with fail
  generalize w3.heap.size = y2 at *
  generalize w3.alloc (.cells #[.int .i64 xo, .int .i64 xh, .int .i64 xm, .int .i64 xc] 25) = V at *
  have hV := Lib.hid (hSH.out.then m4H.out)
  obtain ⟨f0, hrl⟩ := sc_rled 1 hV.out rfl
  obtain ⟨mv, hb, hr, -⟩ := RLedAt.parts hrl
  obtain ⟨ma, ml, mc, rfl⟩ := row_slice hr
  have hrH := Lib.hid hr
  have k1 := GW.cells (S := []) e1'H.out (by simp)
  have k2 := GW.cells (S := []) e2H.out (by simp)
  have k3 := GW.cells (S := []) hb (by simp)
  have z0 : (xo == xo) = true := by simp
  have z1 : (xh == xh) = true := by simp
  have z2 : (xm == xm) = true := by simp
  have z3 : (xc == xc) = true := by simp
  have z4 : (fl != fl) = false := by simp
  have hlo : (ofO L o).length ≤ 1000000 := Nat.le_trans (List.length_filter_le _ _) hll
  clear hrl hb hr
  refine wp_region_pure (by kernel_rfl) (by kernel_rfl) ?_
  refine stage_quiet 11 (by kernel_rfl) ?_
  simp only [List.take_succ_cons, List.take_zero, List.drop_succ_cons, List.drop_zero]
  repeat (go_big_quiet_step (fail))
  refine wpQuiet_nil ?_
  refine stage_call_any 17 _ (fun u => ∃ a m c, u = .slice a m c) (fun u w' => Mod [] V w' ∧ w'.ownsRow V.heap.size 25 4 u (ofO L o).length (flat bcell (ofO L o))) rfl Try.call17 rfl rfl ⟨_, none, 0, 0, rfl⟩ (fun w' hw => (sc_of 0 (hV.out.then hw) hIH.out hn rfl o).mono fun e w'' ⟨u, he, hr, hm⟩ => ⟨u, he, row_slice hr, hw.nil_then hm, row_base hr hw.size⟩) (fun u w' h => InGW.of h.1) (fun u hu => ?_)
  obtain ⟨ua, um, uc, rfl⟩ := hu
  simp only [Act.put, List.setIfInBounds_toArray, List.set_cons_succ, List.set_cons_zero]
  refine stage_quiet 2 (by kernel_rfl) ?_
  simp only [List.take_succ_cons, List.take_zero, List.drop_succ_cons, List.drop_zero]
  repeat (go_big_quiet_step (fail))
  refine wpQuiet_nil ?_
  refine stage_call_any 36 _ (fun u => ∃ a m c, u = .slice a m c) (fun u w' => (Mod [] V w' ∧ w'.ownsRow V.heap.size 25 4 (.slice ua um uc) (ofO L o).length (flat bcell (ofO L o))) ∧ w'.ownsRow V.heap.size 25 4 u (ofO L o).length (flat bcell (ofO L o))) rfl Try.call36 rfl rfl ⟨_, none, 0, 0, rfl⟩ (fun w' hw => (sc_rof 1 (hV.out.then hw.1) hIH.out hn rfl o).mono fun e w'' ⟨u, he, hr, hm⟩ => ⟨u, he, row_slice hr, ⟨hw.1.nil_then hm, row_mod hw.2 hm (by simp)⟩, row_base hr hw.1.size⟩) (fun u w' h => InGW.of h.1.1) (fun u hu => ?_)
  obtain ⟨va, vm, vc, rfl⟩ := hu
  simp only [Act.put, List.setIfInBounds_toArray, List.set_cons_succ, List.set_cons_zero]
  refine stage_go 18 _ (.bool true) (fun w' => Mod [] V w') rfl Try.call18 rfl rfl (fun w' hw => (same_ok hw.1.2 hw.2 hlo).mono fun e w'' ⟨he, hm⟩ => ⟨he, hw.1.1.nil_then hm⟩) (fun _ h => InGW.of h) ?_
  simp only [Act.put, List.setIfInBounds_toArray, List.set_cons_succ, List.set_cons_zero]
  refine stage_quiet 5 (by kernel_rfl) ?_
  simp only [List.take_succ_cons, List.take_zero, List.drop_succ_cons, List.drop_zero]
  repeat (go_big_quiet_step (fail))
  refine wpQuiet_nil ?_
  refine stage_pure 13 _ (.int .i64 ((heldH L k).length : Nat)) rfl Try.call13 rfl rfl (fun w' hw => sc_held 0 (hV.out.then hw) hIH.out hn rfl k) ?_
  simp only [Act.put, List.setIfInBounds_toArray, List.set_cons_succ, List.set_cons_zero]
  refine stage_quiet 2 (by kernel_rfl) ?_
  simp only [List.take_succ_cons, List.take_zero, List.drop_succ_cons, List.drop_zero]
  repeat (go_big_quiet_step (fail))
  refine wpQuiet_nil ?_
  refine stage_pure 37 _ (.int .i64 ((heldH L k).length : Nat)) rfl Try.call37 rfl rfl (fun w' hw => sc_rheld 1 (hV.out.then hw) hIH.out hn rfl k) ?_
  simp only [Act.put, List.setIfInBounds_toArray, List.set_cons_succ, List.set_cons_zero]
  have z5 : (((heldH L k).length : Int) != ((heldH L k).length : Int)) = false := by simp
  refine stage_quiet 4 (by kernel_rfl) ?_
  simp only [List.take_succ_cons, List.take_zero, List.drop_succ_cons, List.drop_zero]
  repeat (go_big_quiet_step (fail))
  refine wpQuiet_nil ?_
  refine stage_call_any 19 _ (fun u => ∃ a m c, u = .slice a m c) (fun u w' => Mod [] V w' ∧ w'.ownsRow V.heap.size 25 4 u L.length (flat bcell L)) rfl Try.call19 rfl rfl ⟨_, none, 0, 0, rfl⟩ (fun w' hw => (sc_listed 0 (hV.out.then hw) hIH.out hn rfl).mono fun e w'' ⟨u, he, hr, hm⟩ => ⟨u, he, row_slice hr, hw.nil_then hm, row_base hr hw.size⟩) (fun u w' h => InGW.of h.1) (fun u hu => ?_)
  obtain ⟨la, lm, lc, rfl⟩ := hu
  simp only [Act.put, List.setIfInBounds_toArray, List.set_cons_succ, List.set_cons_zero]
  refine stage_quiet 4 (by kernel_rfl) ?_
  simp only [List.take_succ_cons, List.take_zero, List.drop_succ_cons, List.drop_zero]
  repeat (go_big_quiet_step (fail))
  refine wpQuiet_nil ?_
  refine stage_go 18 _ (.bool true) (fun w' => Mod [] V w') rfl Try.call18 rfl rfl (fun w' hw => (same_ok hw.2 (row_mod hrH.out hw.1 (by simp)) hll).mono fun e w'' ⟨he, hm⟩ => ⟨he, hw.1.nil_then hm⟩) (fun _ h => InGW.of h) ?_
  simp only [Act.put, List.setIfInBounds_toArray, List.set_cons_succ, List.set_cons_zero]
  refine stage_quiet 2 (by kernel_rfl) ?_
  simp only [List.take_succ_cons, List.take_zero, List.drop_succ_cons, List.drop_zero]
  repeat (go_big_quiet_step (fail))
  refine wpQuiet_nil ?_
  refine stage_nil fun w5 hm5 => ?_
  have m6H := Lib.hid (m4H.out.nil_then hm5)
  clear k1 k2 k3 z0 z1 z2 z3 z4 z5 hm5 e1'H e2H hrH hV m4H
  go_wp2_with fail
  go_loopw [13] (fun i wr => ∃ j : Nat, j ≤ 10 ∧ i = .int .i64 j ∧ Mod [] w wr) (fun i _ => 10 - (intOf i).toNat)
  case atStart => exact ⟨0, by omega, rfl, m6H.out⟩
  case round =>
    obtain ⟨j, hj, rfl, hm⟩ := hrel
    have hmH := Lib.hid hm
    clear hm m6H
    by_cases hlt : j < 10
    · have hj2 : (j : Int) < 10 := by omega
      go_wp2_with fail
      refine (sc_access 0 (hSH.out.then hmH.out) hIH.out hn rfl o k _ _).mono ?_
      rintro e w7 ⟨rfl, hm7⟩
      have hm7H := Lib.hid (hmH.out.nil_then hm7)
      clear hm7
      go_wp2_with fail
      refine (sc_raccess 1 (hSH.out.then hm7H.out) hIH.out hn rfl o k _ _).mono ?_
      rintro e w8 ⟨rfl, hm8⟩
      have hm8H := Lib.hid (hm7H.out.nil_then hm8)
      clear hm8
      have z : ∀ v : Int, (v != v) = false := fun v => by simp
      go_wp2_with fail
      go_roundw
      case rel => exact ⟨j + 1, by omega, by go_num, hm8H.out⟩
      case measure => simp [intOf]; omega
    · obtain rfl : j = 10 := by omega
      go_wp2_with fail
      go_ret
      exact ⟨rfl, hmH.out⟩
end Go.Proofs.Ytappkiiihnaegaa
