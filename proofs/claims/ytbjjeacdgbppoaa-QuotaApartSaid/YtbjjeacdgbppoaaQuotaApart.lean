/- QuotaApart returns true whatever its arguments: the walk. -/
import Derived.Test.YtbjjeacdgbppoaaQuotaPlays
namespace Go.Proofs.Ytbjjeacdgbppoaa
open Go Go.RowKit Go.Stg

def LA : Q := ⟨300, 9, 9⟩
set_option maxHeartbeats 8000000 in
theorem apart_walk (sv : Value) (xs : List X5) (p : Int) (q : Q) (hq : q.i64) (w : World) (hs : StepsAt w sv xs) :
    Calls Try.prog 7 #[sv, .int .i64 p, .agg #[.int .i64 q.b, .int .i64 q.o, .int .i64 q.r]] w fun e w' => e = .returned (.bool true) ∧ Mod [] w w' := by
  go_enter Try.func7, Try.ntmps7
  go_wp2_with fail
  refine (New_any ⟨300, 9, 9⟩ _ (by simp [Q.i64])).mono ?_
  rintro e w1 ⟨b, rfl, hm1, hb, hM⟩
  have hmw := ((Mod.refl [] w).alloc (.cells #[.int .i64 q.b, .int .i64 q.o, .int .i64 q.r] 24 (0, 0))).alloc (.cells #[.int .i64 300, .int .i64 9, .int .i64 9] 24 (0, 0)) |>.nil_then hm1
  have k0 := hm1.at (at_alloc_old (at_alloc w (.cells #[.int .i64 q.b, .int .i64 q.o, .int .i64 q.r] 24 (0, 0)))) (by simp)
  have k1 := hm1.at (at_alloc (w.alloc (.cells #[.int .i64 q.b, .int .i64 q.o, .int .i64 q.r] 24 (0, 0))) (.cells #[.int .i64 300, .int .i64 9, .int .i64 9] 24 (0, 0))) (by simp)
  simp only [World.size_alloc] at k1 hb
  have hsz := hm1.gt
  simp only [World.size_alloc] at hsz
  have z0 : w.heap.size < w1.heap.size := by omega
  have j1 := cells_of k1
  clear hm1
  go_wp2_with fail
  have hlb := lt_of hM.blk
  have hm2 := hmw.alloc (.cells #[.int .i64 300, .int .i64 9, .int .i64 9, .slice none 0 0] 37 (0, 0))
  have hMV := hM.mod ((Mod.refl [] w1).alloc (.cells #[.int .i64 300, .int .i64 9, .int .i64 9, .slice none 0 0] 37 (0, 0))) (by simp)
  have hrb := at_alloc w1 (.cells #[.int .i64 300, .int .i64 9, .int .i64 9, .slice none 0 0] 37 (0, 0))
  have k0 := at_alloc_old (o := .cells #[.int .i64 300, .int .i64 9, .int .i64 9, .slice none 0 0] 37 (0, 0)) k0
  have k1 := at_alloc_old (o := .cells #[.int .i64 300, .int .i64 9, .int .i64 9, .slice none 0 0] 37 (0, 0)) k1
  have hsz2 := hmw.size
  have hne : b ≠ w1.heap.size := by omega
  clear hM hmw j1
  generalize w1.alloc (.cells #[.int .i64 300, .int .i64 9, .int .i64 9, .slice none 0 0] 37 (0, 0)) = V at *
  generalize hr : w1.heap.size = rb at *
  have hP0 : Pair [b, rb] V b rb LA (fun _ => Q.zero) [] V :=
    ⟨none, .slice none 0 0, Mod.refl _ _, hMV, ⟨by simp [Q.i64, LA], hrb, World.ownsRow_nil _ _ _ _, by simp [Value.ownBlock], by simp⟩, by simp, by simp, hne, by simp, by simp [Value.ownBlock], by simp, by simp, by simp [Value.ownBlock]⟩
  have hln := fun ty w => hs.len ty w
  have hlm : xs.length ≤ maxLen := by
    rcases hs with ⟨_, rfl⟩ | ⟨_, _, _, _, _, h, _⟩
    · simp
    · exact h
  unfold maxLen at hlm
  have hrw : w.heap.size ≤ rb := by omega
  clear hMV hrb hr
  have hadd := Pair_Add hP0 9 ⟨300, 9, 9⟩
  rw [show fitsE LA ((fun _ => Q.zero) 9) ⟨300, 9, 9⟩ = 0 from by decide] at hadd
  refine hadd.mono ?_
  clear hadd
  rintro e w3 ⟨rfl, hP1⟩
  have j1 := cells_of (hP1.mod.at k1 (by simp; omega))
  go_wp2_with fail
  have hadd := Pair_RAdd hP1 9 ⟨300, 9, 9⟩ (by simp [rget, Q.zero, Q.pos]) (by simp [Q.i64]) (by simp)
  rw [show fitsE LA (rget 9 []) ⟨300, 9, 9⟩ = 0 from by decide] at hadd
  refine hadd.mono ?_
  clear hadd
  rintro e w4 ⟨rfl, hP2⟩
  have hA2 : Agree (addF LA (fun _ => Q.zero) 9 ⟨300, 9, 9⟩) (addL LA [] 9 ⟨300, 9, 9⟩) := (show Agree (fun _ => Q.zero) [] from fun _ => rfl).add LA 9 ⟨300, 9, 9⟩
  have h92 : addF LA (fun _ => Q.zero) 9 ⟨300, 9, 9⟩ 9 = LA := by unfold addF; rw [if_pos (by decide)]; rfl
  have hL2 := addL_length LA [] 9 ⟨300, 9, 9⟩
  generalize addF LA (fun _ => Q.zero) 9 ⟨300, 9, 9⟩ = f2 at *
  generalize addL LA [] 9 ⟨300, 9, 9⟩ = L2 at *
  clear hP1 j1 hP0
  go_wp2_with fail
  go_loopw [10] (fun i wr => ∃ k : Nat, k ≤ xs.length ∧ k ≤ 30 ∧ i = .int .i64 k ∧ ∃ f L, Pair [b, rb] V b rb LA f L wr ∧ Agree f L ∧ L.length ≤ 2 * k + 1 ∧ f 9 = LA) (fun i _ => 30 - (intOf i).toNat)
  case atStart => exact ⟨0, by omega, by omega, rfl, _, _, hP2, hA2, by simpa using hL2, h92⟩
  case round =>
    obtain ⟨k, hk1, hk2, rfl, f, L, hP, hA, hL, h9⟩ := hrel
    by_cases hlt : k < xs.length ∧ k < 30
    · obtain ⟨hlt, hlt2⟩ := hlt
      have hmr := hm2.then hP.mod (by simp; omega)
      have hsr := hs.mod hmr (by simp)
      rcases hsr with ⟨_, rfl⟩ | ⟨sb, so, cap, rfl, h2, h3, h4⟩
      · simp at hlt
      · obtain ⟨hx, c0, c1, c2, c3, c4⟩ := h4 k hlt
        obtain ⟨S2, hS2, hB⟩ := hP.base
        have hPW := hB [] _ (Mod.refl _ _) (by simp)
        have hmW := hP.mod
        have hback : ∀ {f' L' w'}, Pair S2 wr b rb LA f' L' w' → Pair [b, rb] V b rb LA f' L' w' := fun h => h.back hmW (by simp) (by simp) (fun y hy => (hS2 y hy).2)
        have hn1 : w.heap.size + 1 ∉ S2 := fun h => by
          have := lt_of k1
          rcases (hS2 _ h).2 with h | h
          · simp at h; omega
          · omega
        have hsb : sb < w.heap.size := by
          rcases hs with ⟨h, _⟩ | ⟨sb', so', cap', h, h', _⟩
          · simp at h
          · simp at h; omega
        have hn2 : sb ∉ S2 := fun h => by
          rcases (hS2 _ h).2 with h | h
          · simp at h; omega
          · have := lt_of k1; omega
        have g0 := GW.cell1 (S := S2) c0 h2 hn2
        have g1 := GW.cell1 (S := S2) c1 h2 hn2
        have g2 := GW.cell1 (S := S2) c2 h2 hn2
        have g3 := GW.cell1 (S := S2) c3 h2 hn2
        have g4 := GW.cell1 (S := S2) c4 h2 hn2
        have gl := GW.cells (S := S2) (hmW.at k1 (by simp; omega)) hn1
        have hA3 := hA.step LA xs[k]
        have hL3 := stepL_length LA L xs[k]
        have h93 : stepF LA f xs[k] 9 = LA := by rw [stepF_other LA f xs[k] 9 hx (by omega)]; exact h9
        have hstep := fun w' (h : Pair S2 wr b rb LA f L w') => step_any (S := S2) (W0 := wr) (w := w') h hA (by omega) xs[k] hx
        clear h4 c0 c1 c2 c3 c4 hP hB hs hx hA h9
        generalize hxk : xs[k] = x at *
        clear hxk
        generalize stepF LA f x = f3 at *
        generalize stepL LA L x = L3 at *
        have H93 := Lib.hid h93
        have HS := Lib.hid hstep
        clear h93 hstep
        go_wp2_with fail
        refine wp_region_stage (fun w' => ∃ x : GW S2 wr, w' = x.1) (Pair S2 wr b rb LA f L) (by kernel_rfl) (by kernel_rfl) (fun _ h => InGW.of h.mod) (hPW.then (Mod.refl _ _).drew) ?_
        refine stage_quiet 6 (by kernel_rfl) ?_
        simp only [List.take_succ_cons, List.take_zero, List.drop_succ_cons, List.drop_zero]
        repeat (go_big_quiet_step (fail))
        refine wpQuiet_nil ?_
        refine stage_go 13 _ (.bool true) (Pair S2 wr b rb LA f3 L3) rfl Try.call13 rfl rfl (fun w' h => HS.out w' h) (fun _ h => InGW.of h.mod) ?_
        simp only [Act.put, List.setIfInBounds_toArray, List.set_cons_succ, List.set_cons_zero]
        refine stage_quiet 3 (by kernel_rfl) ?_
        simp only [List.take_succ_cons, List.take_zero, List.drop_succ_cons, List.drop_zero]
        repeat (go_big_quiet_step (fail))
        refine wpQuiet_nil ?_
        refine stage_go 11 _ (.agg #[.int .i64 300, .int .i64 9, .int .i64 9]) (Pair S2 wr b rb LA f3 L3) rfl Try.call11 rfl rfl (fun w' h => by have := Pair_Get h 9; rw [H93.out] at this; exact this) (fun _ h => InGW.of h.mod) ?_
        simp only [Act.put, List.setIfInBounds_toArray, List.set_cons_succ, List.set_cons_zero]
        refine stage_quiet 3 (by kernel_rfl) ?_
        simp only [List.take_succ_cons, List.take_zero, List.drop_succ_cons, List.drop_zero]
        repeat (go_big_quiet_step (fail))
        refine wpQuiet_nil ?_
        refine stage_nil fun w5 h5 => ?_
        have hfin := hback h5
        clear h5 hback hPW hmW gl g0 g1 g2 g3 g4
        go_wp2_with fail
        go_roundw
        case rel => exact ⟨k + 1, by omega, by omega, by go_num, f3, L3, hfin, hA3, by omega, H93.out⟩
        case measure => simp [intOf]; omega
    · have hmr := hm2.then hP.mod (by simp; omega)
      have kq := hP.mod.at k0 (by simp; omega)
      clear hP hA h9 hs hA2 h92 hP2
      have hlt2 : ¬ (k < xs.length) ∨ (k < xs.length ∧ ¬ (k < 30)) := by omega
      clear hlt
      rcases hlt2 with hlt | ⟨hlt, hlt2⟩
      all_goals
        go_wp2_with fail
        refine (Reset_nil p _).mono ?_
        rintro e w5 ⟨rfl, hm5⟩
        go_wp2_with fail
        have kq5 := hm5.at kq (by simp)
        have hmr5 := hmr.nil_then hm5
        have y1 := at_alloc_old (o := .cells #[.int .i64 0, .int .i64 0, .int .i64 0, .slice none 0 0] 37 (0, 0)) (at_alloc_old (o := .cells #[.int .i64 0, .int .i64 0, .int .i64 0, .map none] 47 (0, 0)) kq5)
        have y2 := at_alloc_old (o := .cells #[.int .i64 0, .int .i64 0, .int .i64 0, .slice none 0 0] 37 (0, 0)) (at_alloc w5 (.cells #[.int .i64 0, .int .i64 0, .int .i64 0, .map none] 47 (0, 0)))
        have y3 := at_alloc (w5.alloc (.cells #[.int .i64 0, .int .i64 0, .int .i64 0, .map none] 47 (0, 0))) (.cells #[.int .i64 0, .int .i64 0, .int .i64 0, .slice none 0 0] 37 (0, 0))
        rw [World.size_alloc] at y3
        have hmz := (hmr5.alloc (.cells #[.int .i64 0, .int .i64 0, .int .i64 0, .map none] 47 (0, 0))).alloc (.cells #[.int .i64 0, .int .i64 0, .int .i64 0, .slice none 0 0] 37 (0, 0))
        have hw5 := hmr5.size
        have hlq := lt_of kq5
        clear kq kq5 hm5 hmr hmr5
        generalize (w5.alloc (.cells #[.int .i64 0, .int .i64 0, .int .i64 0, .map none] 47 (0, 0))).alloc (.cells #[.int .i64 0, .int .i64 0, .int .i64 0, .slice none 0 0] 37 (0, 0)) = W at *
        have hPz : Pair [w5.heap.size, w5.heap.size + 1] W w5.heap.size (w5.heap.size + 1) Q.zero (fun _ => Q.zero) [] W :=
          ⟨none, .slice none 0 0, Mod.refl _ _, ⟨by simp [Q.i64, Q.zero], fun _ => by simp [Q.zero, Q.pos], y2, fun _ => rfl, by simp⟩, ⟨by simp [Q.i64, Q.zero], y3, World.ownsRow_nil _ _ _ _, by simp [Value.ownBlock], by simp⟩, by simp, by simp, by omega, by simp, by simp [Value.ownBlock], by simp, by simp, by simp [Value.ownBlock]⟩
        have hAz := (show Agree (fun _ => Q.zero) [] from fun _ => rfl)
        have hAz2 := hAz.add Q.zero p q
        have gq := GW.cells (S := [w5.heap.size, w5.heap.size + 1]) y1 (by simp; omega)
        generalize hzb : w5.heap.size = zb at *
        generalize hzr : zb + 1 = zr at *
        have hzz : (fitsE Q.zero ((fun _ => Q.zero) p) q) = fitsE Q.zero (rget p []) q := rfl
        refine wp_region_stage (fun w' => ∃ x : GW [zb, zr] W, w' = x.1) (Pair [zb, zr] W zb zr Q.zero (fun _ => Q.zero) []) (by kernel_rfl) (by kernel_rfl) (fun _ h => InGW.of h.mod) (hPz.then (Mod.refl _ _).drew) ?_
        clear y1 y2 y3
        refine stage_go 10 _ (.bool true) (Pair [zb, zr] W zb zr Q.zero (fun _ => Q.zero) []) rfl Try.call10 rfl rfl (fun w' h => (awake_any w').mono fun e w'' ⟨he, hm⟩ => ⟨he, h.then hm⟩) (fun _ h => InGW.of h.mod) ?_
        simp only [Act.put, List.setIfInBounds_toArray, List.set_cons_succ, List.set_cons_zero]
        refine stage_quiet 4 (by kernel_rfl) ?_
        simp only [List.take_succ_cons, List.take_zero, List.drop_succ_cons, List.drop_zero]
        repeat (go_big_quiet_step (fail))
        refine wpQuiet_nil ?_
        refine stage_go 9 _ (.int .i64 1) (Pair [zb, zr] W zb zr Q.zero (fun _ => Q.zero) []) rfl Try.call9 rfl rfl (fun w' h => (Add_nil p q w').mono fun e w'' ⟨he, hm⟩ => ⟨he, h.then hm⟩) (fun _ h => InGW.of h.mod) ?_
        simp only [Act.put, List.setIfInBounds_toArray, List.set_cons_succ, List.set_cons_zero]
        refine stage_quiet 6 (by kernel_rfl) ?_
        simp only [List.take_succ_cons, List.take_zero, List.drop_succ_cons, List.drop_zero]
        repeat (go_big_quiet_step (fail))
        refine wpQuiet_nil ?_
        refine stage_go 15 _ (.int .i64 1) (Pair [zb, zr] W zb zr Q.zero (fun _ => Q.zero) []) rfl Try.call15 rfl rfl (fun w' h => (Fits_nil p q w').mono fun e w'' ⟨he, hm⟩ => ⟨he, h.then hm⟩) (fun _ h => InGW.of h.mod) ?_
        simp only [Act.put, List.setIfInBounds_toArray, List.set_cons_succ, List.set_cons_zero]
        refine stage_quiet 6 (by kernel_rfl) ?_
        simp only [List.take_succ_cons, List.take_zero, List.drop_succ_cons, List.drop_zero]
        repeat (go_big_quiet_step (fail))
        refine wpQuiet_nil ?_
        refine stage_go 12 _ (.int .i64 1) (Pair [zb, zr] W zb zr Q.zero (fun _ => Q.zero) []) rfl Try.call12 rfl rfl (fun w' h => (Sub_nil p q w').mono fun e w'' ⟨he, hm⟩ => ⟨he, h.then hm⟩) (fun _ h => InGW.of h.mod) ?_
        simp only [Act.put, List.setIfInBounds_toArray, List.set_cons_succ, List.set_cons_zero]
        refine stage_quiet 5 (by kernel_rfl) ?_
        simp only [List.take_succ_cons, List.take_zero, List.drop_succ_cons, List.drop_zero]
        repeat (go_big_quiet_step (fail))
        refine wpQuiet_nil ?_
        refine stage_go 11 _ (.agg #[.int .i64 0, .int .i64 0, .int .i64 0]) (Pair [zb, zr] W zb zr Q.zero (fun _ => Q.zero) []) rfl Try.call11 rfl rfl (fun w' h => (Get_nil p w').mono fun e w'' ⟨he, hm⟩ => ⟨he, h.then hm⟩) (fun _ h => InGW.of h.mod) ?_
        simp only [Act.put, List.setIfInBounds_toArray, List.set_cons_succ, List.set_cons_zero]
        refine stage_quiet 7 (by kernel_rfl) ?_
        simp only [List.take_succ_cons, List.take_zero, List.drop_succ_cons, List.drop_zero]
        repeat (go_big_quiet_step (fail))
        refine wpQuiet_nil ?_
        refine stage_go 9 _ (.int .i64 (fitsE Q.zero Q.zero q)) (Pair [zb, zr] W zb zr Q.zero (addF Q.zero (fun _ => Q.zero) p q) []) rfl Try.call9 rfl rfl (fun w' h => Pair_Add h p q) (fun _ h => InGW.of h.mod) ?_
        simp only [Act.put, List.setIfInBounds_toArray, List.set_cons_succ, List.set_cons_zero]
        refine stage_quiet 3 (by kernel_rfl) ?_
        simp only [List.take_succ_cons, List.take_zero, List.drop_succ_cons, List.drop_zero]
        repeat (go_big_quiet_step (fail))
        refine wpQuiet_nil ?_
        refine stage_go 17 _ (.int .i64 (fitsE Q.zero Q.zero q)) (Pair [zb, zr] W zb zr Q.zero (addF Q.zero (fun _ => Q.zero) p q) (addL Q.zero [] p q)) rfl Try.call17 rfl rfl (fun w' h => Pair_RAdd h p q (by simp [rget, Q.zero, Q.pos]) hq (by simp)) (fun _ h => InGW.of h.mod) ?_
        simp only [Act.put, List.setIfInBounds_toArray, List.set_cons_succ, List.set_cons_zero]
        refine stage_quiet 5 (by kernel_rfl) ?_
        simp only [List.take_succ_cons, List.take_zero, List.drop_succ_cons, List.drop_zero]
        repeat (go_big_quiet_step (fail))
        refine wpQuiet_nil ?_
        refine stage_go 11 _ (.agg #[.int .i64 (addF Q.zero (fun _ => Q.zero) p q p).b, .int .i64 (addF Q.zero (fun _ => Q.zero) p q p).o, .int .i64 (addF Q.zero (fun _ => Q.zero) p q p).r]) (Pair [zb, zr] W zb zr Q.zero (addF Q.zero (fun _ => Q.zero) p q) (addL Q.zero [] p q)) rfl Try.call11 rfl rfl (fun w' h => Pair_Get h p) (fun _ h => InGW.of h.mod) ?_
        simp only [Act.put, List.setIfInBounds_toArray, List.set_cons_succ, List.set_cons_zero]
        refine stage_quiet 2 (by kernel_rfl) ?_
        simp only [List.take_succ_cons, List.take_zero, List.drop_succ_cons, List.drop_zero]
        repeat (go_big_quiet_step (fail))
        refine wpQuiet_nil ?_
        refine stage_go 14 _ (.agg #[.int .i64 (addF Q.zero (fun _ => Q.zero) p q p).b, .int .i64 (addF Q.zero (fun _ => Q.zero) p q p).o, .int .i64 (addF Q.zero (fun _ => Q.zero) p q p).r]) (Pair [zb, zr] W zb zr Q.zero (addF Q.zero (fun _ => Q.zero) p q) (addL Q.zero [] p q)) rfl Try.call14 rfl rfl (fun w' h => by have := Pair_RGet h p; rw [← hAz2 p] at this; exact this) (fun _ h => InGW.of h.mod) ?_
        simp only [Act.put, List.setIfInBounds_toArray, List.set_cons_succ, List.set_cons_zero]
        refine stage_quiet 3 (by kernel_rfl) ?_
        simp only [List.take_succ_cons, List.take_zero, List.drop_succ_cons, List.drop_zero]
        repeat (go_big_quiet_step (fail))
        refine wpQuiet_nil ?_
        refine stage_nil fun w6 h6 => ?_
        have hfin := hmz.then h6.mod (by simp; omega)
        clear h6 gq hPz hAz hAz2
        go_wp2_with fail
        go_ret
        exact ⟨rfl, hfin⟩
end Go.Proofs.Ytbjjeacdgbppoaa
