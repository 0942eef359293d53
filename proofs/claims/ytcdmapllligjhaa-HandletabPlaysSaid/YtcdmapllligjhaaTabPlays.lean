/- HandletabPlays: the walk of the law. -/
import Derived.Test.YtcdmapllligjhaaTabAny
namespace Go.Proofs.Ytcdmapllligjhaa
open Go Go.RowKit Go.Stg

set_option maxHeartbeats 8000000 in
set_option maxRecDepth 20000 in
theorem plays_walk (nu f : Int) (sv : Value) (xs : List X4) (n0 : 0 ≤ nu) (n1 : nu ≤ 255) (f0 : 0 ≤ f) (f1 : f ≤ 255) (w : World) (hs : Steps4At w sv xs) :
    Calls Try.prog 5 #[.int .u8 nu, .int .u8 f, sv] w fun e w' => e = .returned (.bool true) ∧ Mod [] w w' := by
  have hln := fun ty w => hs.len ty w
  have hlm := hs.small
  obtain ⟨n, hn⟩ := Int.eq_ofNat_of_zero_le (show 0 ≤ nu % 7 by omega)
  have hn7 : n ≤ 6 := by omega
  obtain ⟨hf1, hf2⟩ := firstT_in f
  have hsH := Lib.hid hs
  have hF := Lib.hid fun w => firstT_any f f0 f1 w
  generalize firstT f = first at *
  have hI0 := Lib.hid (TInv.start n first)
  clear hs
  go_enter Try.func5, Try.ntmps5
  go_wp2_with fail
  refine (tawake_ok w).mono ?_
  rintro e w0 ⟨rfl, hm0⟩
  have hE0 := Lib.hid ((Scene.empty w).then hm0)
  clear hm0
  go_wp2_with fail
  refine (hF.out _).mono ?_
  rintro e w1 ⟨rfl, hm1⟩
  have hE1 := Lib.hid (hE0.out.then hm1)
  clear hm1
  go_wp2_with fail
  refine (tnew_ok n first (by omega) hf1 hf2 hE1.out).mono ?_
  rintro e w2 ⟨tb, tv, b, pb, sl, rfl, hS2⟩
  have hS2 := Lib.hid hS2
  clear hE1
  go_wp2_with fail
  refine (hF.out _).mono ?_
  rintro e w3 ⟨rfl, hm3⟩
  have hS3 := Lib.hid (hS2.out.then hm3)
  clear hS2 hm3
  go_wp2_with fail
  refine (rtnew_ok n first (by omega) hf1 hf2 hS3.out).mono ?_
  rintro e w4 ⟨tm, mv, c, gv, lv, rfl, hS4⟩
  have hS4 : Scene [] w (pparts tb tv b pb sl tm mv c gv lv first (start n) (.slice none 0 0) []) w4 := by
    obtain ⟨g1, fp, ⟨p1, _, q1, ⟨p2, g, q2, hg, hfg, rfl⟩, q3, rfl⟩, g3⟩ := hS4.swap
    have hg' : g = [] := hg
    subst hg'
    exact ⟨g1, _, ⟨p1, _, q1, ⟨p2, [], q2, ⟨[], [], ⟨World.ownsRow_nil _ _ _ _, rfl⟩, rfl, by simp, rfl⟩, by simp, rfl⟩, q3, rfl⟩, g3⟩
  have hS4 := Lib.hid hS4
  clear hS3
  go_wp2_with fail
  go_loopw [12, 11] (fun i hv wr => ∃ k : Nat, k ≤ xs.length ∧ k ≤ 40 ∧ i = .int .i64 k ∧ ∃ x hs, Scene [] w (pparts tb tv b pb sl tm mv c gv lv first x hv hs) wr ∧ TInv n first x ∧ (∀ h ∈ hs, 0 ≤ h ∧ h ≤ 18446744073709551615) ∧ hs.length ≤ k) (fun i _ _ => 40 - (intOf i).toNat)
  case atStart => exact ⟨0, by omega, by omega, rfl, _, [], hS4.out, hI0.out, by simp, by simp⟩
  case round =>
    obtain ⟨k, hk1, hk2, rfl, x, hs, hSx, hI, hh, hlk⟩ := hrel
    clear hS4 hI0
    have hSH := Lib.hid hSx
    have hIH := Lib.hid hI
    have hhH := Lib.hid hh
    clear hSx hI hh
    by_cases hlt : k < xs.length
    · by_cases hlt2 : k < 40
      · have hk40 : decide ((k : Int) < 40) = true := by rw [decide_eq_true_eq]; omega
        rcases hsH.out with ⟨_, rfl⟩ | ⟨sb, so, cap, rfl, h2, h3, h4⟩
        · simp at hlt
        · obtain ⟨⟨a0, b0, e0, d0⟩, c0, c1, c2, c3⟩ := h4 k hlt
          clear h4
          generalize hx0 : xs[k] = x0 at *
          clear hx0
          rcases x0 with ⟨xa, xb, xc, xd⟩
          simp only at a0 b0 e0 d0 c0 c1 c2 c3
          have kc0 := GW.cell1 (S := []) c0 h2 (by simp)
          have kc1 := GW.cell1 (S := []) c1 h2 (by simp)
          have kc2 := GW.cell1 (S := []) c2 h2 (by simp)
          have kc3 := GW.cell1 (S := []) c3 h2 (by simp)
          clear c0 c1 c2 c3
          go_wp2_with fail
          refine wp_region_stage (fun w' => ∃ y : GW [] w, w' = y.1) (fun w' => Scene [] w (pparts tb tv b pb sl tm mv c gv lv first x u11 hs) w') (by kernel_rfl) (by kernel_rfl) (fun _ h => InGW.of h.mod) hSH.out.drew ?_
          refine stage_quiet 7 (by kernel_rfl) ?_
          simp only [List.take_succ_cons, List.take_zero, List.drop_succ_cons, List.drop_zero]
          repeat (go_big_quiet_step (fail))
          refine wpQuiet_nil ?_
          refine stage_go 9 _ (.int .i64 first) (fun w' => Scene [] w (pparts tb tv b pb sl tm mv c gv lv first x u11 hs) w') rfl Try.call9 rfl rfl (fun w' hw => (hF.out w').mono fun e w'' ⟨he, hm⟩ => ⟨he, hw.then hm⟩) (fun _ hw => InGW.of hw.mod) ?_
          simp only [Act.put, List.setIfInBounds_toArray, List.set_cons_succ, List.set_cons_zero]
          refine stage_quiet 1 (by kernel_rfl) ?_
          simp only [List.take_succ_cons, List.take_zero, List.drop_succ_cons, List.drop_zero]
          repeat (go_big_quiet_step (fail))
          refine wpQuiet_nil ?_
          refine stage_call_any 18 _ (fun v => ∃ hv', v = .tuple #[hv', .bool true]) (fun v w' => ∃ x' hv' hs', v = .tuple #[hv', .bool true] ∧ Scene [] w (pparts tb tv b pb sl tm mv c gv lv first x' hv' hs') w' ∧ TInv n first x' ∧ (∀ h ∈ hs', 0 ≤ h ∧ h ≤ 18446744073709551615) ∧ hs'.length ≤ hs.length + 1) rfl Try.call18 rfl rfl ⟨_, .slice none 0 0, rfl⟩ (fun w' hw => (tstep hw hIH.out (by omega) hf1 hf2 hhH.out (by omega) xa xb xc xd a0 b0 e0 d0).mono fun e w'' ⟨x', hv', hs', he, k1, k2, k3, k4⟩ => ⟨_, he, ⟨hv', rfl⟩, x', hv', hs', rfl, k1, k2, k3, k4⟩) (fun v w' ⟨_, _, _, _, hw, _⟩ => InGW.of hw.mod) (fun v hv => ?_)
          obtain ⟨hv', rfl⟩ := hv
          simp only [Act.put, List.setIfInBounds_toArray, List.set_cons_succ, List.set_cons_zero]
          refine stage_quiet 5 (by kernel_rfl) ?_
          simp only [List.take_succ_cons, List.take_zero, List.drop_succ_cons, List.drop_zero]
          repeat (go_big_quiet_step (fail))
          refine wpQuiet_nil ?_
          refine stage_nil fun w6 hw6 => ?_
          obtain ⟨x', hv2, hs', e', k1, k2, k3, k4⟩ := hw6
          obtain rfl : hv2 = hv' := by simpa using e'.symm
          have k1 := Lib.hid k1
          have hF2 := Lib.hid fun w' (hw : Scene [] w (pparts tb tv b pb sl tm mv c gv lv first x' hv2 hs') w') => (hF.out w').mono fun e w'' ⟨he, hm⟩ => And.intro he (hw.then hm)
          have hI2 := Lib.hid k2
          have hWd := Lib.hid fun w' (h : Scene [] w (pparts tb tv b pb sl tm mv c gv lv first x' hv2 hs') w') => (word_ok xb xc xd xa first e0 d0 a0 ⟨by omega, hf2⟩ hv2 hs' (by omega) w' ⟨h.row 2 rfl, k3⟩).mono (R' := fun e w'' => ∃ v, e = .returned v ∧ (∃ q : Int, v = .int .u64 q ∧ 0 ≤ q ∧ q ≤ 18446744073709551615) ∧ Scene [] w (pparts tb tv b pb sl tm mv c gv lv first x' hv2 hs') w'') fun e w'' ⟨q, he, hq, hm⟩ => ⟨_, he, ⟨q, rfl, hq⟩, h.then hm⟩
          have hTL := Lib.hid (sc_talike k1.out k2 (by omega) hf1)
          clear hsH
          go_wp2_with fail
          refine hTL.out.mono ?_
          rintro e w7 ⟨rfl, hS7⟩
          have hS7 := Lib.hid hS7
          clear hTL k1
          go_wp2_with fail
          refine wp_region_stage (fun w' => ∃ y : GW [] w, w' = y.1) (fun w' => Scene [] w (pparts tb tv b pb sl tm mv c gv lv first x' hv2 hs') w') (by kernel_rfl) (by kernel_rfl) (fun _ h => InGW.of h.mod) hS7.out.drew ?_
          refine stage_quiet 22 (by kernel_rfl) ?_
          simp only [List.take_succ_cons, List.take_zero, List.drop_succ_cons, List.drop_zero]
          repeat (go_big_quiet_step (fail))
          refine wpQuiet_nil ?_
          refine stage_go 9 _ (.int .i64 first) (fun w' => Scene [] w (pparts tb tv b pb sl tm mv c gv lv first x' hv2 hs') w') rfl Try.call9 rfl rfl hF2.out (fun _ hw => InGW.of hw.mod) ?_
          simp only [Act.put, List.setIfInBounds_toArray, List.set_cons_succ, List.set_cons_zero]
          refine stage_quiet 1 (by kernel_rfl) ?_
          simp only [List.take_succ_cons, List.take_zero, List.drop_succ_cons, List.drop_zero]
          repeat (go_big_quiet_step (fail))
          refine wpQuiet_nil ?_
          refine stage_call_any 20 _ (fun v => ∃ q : Int, v = .int .u64 q ∧ 0 ≤ q ∧ q ≤ 18446744073709551615) (fun v w' => Scene [] w (pparts tb tv b pb sl tm mv c gv lv first x' hv2 hs') w') rfl Try.call20 rfl rfl ⟨_, 0, rfl, by omega, by omega⟩ hWd.out (fun v w' hw => InGW.of hw.mod) (fun v hv => ?_)
          obtain ⟨q, rfl, q0, q1⟩ := hv
          simp only [Act.put, List.setIfInBounds_toArray, List.set_cons_succ, List.set_cons_zero]
          refine stage_quiet 1 (by kernel_rfl) ?_
          simp only [List.take_succ_cons, List.take_zero, List.drop_succ_cons, List.drop_zero]
          repeat (go_big_quiet_step (fail))
          refine wpQuiet_nil ?_
          refine stage_nil fun w8 hw8 => ?_
          have hS8 := Lib.hid hw8
          clear kc0 kc1 kc2 kc3 hF2 hS7
          obtain ⟨eh, eo, et, ef, el, hen⟩ : ∃ eh eo et ef el, resN x' q = ⟨eh, eo, et, ef, el⟩ := ⟨_, _, _, _, _, rfl⟩
          have hRV : resV x' q = .tuple #[.agg #[.int .u64 eh, .int .i64 eo, .int .i64 et, .int .i64 ef, .int .i64 el], .int .i64 (resE x' q)] := by unfold resV; rw [hen]; rfl
          have hr1 := sc_resolve 0 hS8.out hI2.out (by omega) rfl q q0 q1
          rw [hRV] at hr1
          have hr1 := Lib.hid hr1
          have hr2 := fun w' (r : Nat) (hS : Scene [] w (blockC r (.cells #[.int .u64 eh, .int .i64 eo, .int .i64 et, .int .i64 ef, .int .i64 el] 39 (0, 0)) :: pparts tb tv b pb sl tm mv c gv lv first x' hv2 hs') w') => sc_rresolve 2 hS hI2.out (by omega) rfl q q0 q1
          rw [hRV] at hr2
          have hr2H := Lib.hid hr2
          have s0 : (eh == eh) = true := by simp
          have s1 : (eo == eo) = true := by simp
          have s2 : (et == et) = true := by simp
          have s3 : (ef == ef) = true := by simp
          have s4 : (el == el) = true := by simp
          have s5 : (resE x' q == resE x' q) = true := by simp
          clear hen hRV hr2
          go_wp2_with fail
          refine hr1.out.mono ?_
          rintro e w9 ⟨rfl, hS9⟩
          have hS9 := Lib.hid (hS9.alloc (.cells #[.int .u64 eh, .int .i64 eo, .int .i64 et, .int .i64 ef, .int .i64 el] 39 (0, 0)))
          clear hr1
          go_wp2_with fail
          refine (hr2H.out _ _ hS9.out).mono ?_
          rintro e w10 ⟨rfl, hS10⟩
          have hS10 := Lib.hid (hS10.alloc (.cells #[.int .u64 eh, .int .i64 eo, .int .i64 et, .int .i64 ef, .int .i64 el] 39 (0, 0)))
          have hq1 := cells_of (hS10.out.block 0 rfl)
          have hq2 := cells_of (hS10.out.block 1 rfl)
          clear hr2H hS9 hS8
          go_wp2_with fail
          go_roundw
          case rel => exact ⟨k + 1, by omega, by omega, by go_num, x', hs', (hS10.out.erase 0).erase 0, k2, k3, by omega⟩
          case measure => simp [intOf]; omega
      · go_wp2_with fail
        refine (tawake_ok _).mono ?_
        rintro e w5 ⟨rfl, hm5⟩
        have hm6 := Lib.hid (hSH.out.then hm5).mod
        clear hSH
        go_wp2_with fail
        go_ret
        exact ⟨rfl, hm6.out⟩
    · go_wp2_with fail
      refine (tawake_ok _).mono ?_
      rintro e w5 ⟨rfl, hm5⟩
      have hm6 := Lib.hid (hSH.out.then hm5).mod
      clear hSH
      go_wp2_with fail
      go_ret
      exact ⟨rfl, hm6.out⟩
end Go.Proofs.Ytcdmapllligjhaa
