/- Borrows: the comparison that the sort is given. -/
import Derived.Test.YtappkiiihnaegaaBSort
import Derived.Test.YtappkiiihnaegaaStageX
namespace Go.Proofs.Ytappkiiihnaegaa
open Go Go.RowKit Go.Stg Go.Sort Go.Proofs

theorem isNaN_ok (x : Int) (w : World) : Calls Try.prog 51 #[.int .i64 x] w fun e w' => e = .returned (.bool false) ∧ w' = w := by
  go_enter Try.func51, Try.ntmps51
  go_wp2_with fail
  go_ret
  exact ⟨rfl, rfl⟩
theorem compare_ok (x y : Int) (w : World) : Calls Try.prog 45 #[.int .i64 x, .int .i64 y] w fun e w' => e = .returned (.int .i64 (cmpI x y)) ∧ w' = w := by
  have hN := Lib.hid isNaN_ok
  obtain ⟨c, hc⟩ : ∃ c, cmpI x y = c := ⟨_, rfl⟩
  rw [hc]
  have hcH := Lib.hid hc
  clear hc
  go_enter Try.func45, Try.ntmps45
  go_wp2_with fail
  refine (hN.out x w).mono ?_
  rintro e w1 ⟨rfl, rfl⟩
  go_wp2_with fail
  refine (hN.out y _).mono ?_
  rintro e w1 ⟨rfl, rfl⟩
  have hc := hcH.out
  unfold cmpI at hc
  by_cases h1 : x < y
  · rw [if_pos h1] at hc
    subst hc
    go_wp2_with fail
    go_ret
    exact ⟨rfl, rfl⟩
  · rw [if_neg h1] at hc
    by_cases h2 : y < x
    · rw [if_pos h2] at hc
      subst hc
      go_wp2_with fail
      go_ret
      exact ⟨rfl, rfl⟩
    · rw [if_neg h2] at hc
      subst hc
      go_wp2_with fail
      go_ret
      exact ⟨rfl, rfl⟩
theorem or_ok (g : Nat) (x y : Int) (w : World) (h : w.heap[g]? = some (.cells #[.int .i64 x, .int .i64 y] 3 (0, 0))) : Calls Try.prog 44 #[.slice (some ⟨g, 0, none⟩) 2 2] w fun e w' => e = .returned (.int .i64 (if x ≠ 0 then x else y)) ∧ w' = w := by
  obtain ⟨c, hc⟩ : ∃ c, (if x ≠ 0 then x else y) = c := ⟨_, rfl⟩
  rw [hc]
  have hcH := Lib.hid hc
  have hb := cells_of h
  clear hc
  go_enter Try.func44, Try.ntmps44
  go_wp2_with fail
  refine wp_loop_rounds 3 ?_
  rw [rounds_succ]
  have hc := hcH.out
  by_cases h1 : x = 0
  · subst h1
    rw [if_neg (by simp)] at hc
    subst hc
    go_wp2_with fail
    rw [rounds_succ]
    by_cases h2 : y = 0
    · subst h2
      go_wp2_with fail
      rw [rounds_succ]
      go_wp2_with fail
      go_ret
      exact ⟨rfl, rfl⟩
    · go_wp2_with fail
      go_ret
      exact ⟨rfl, rfl⟩
  · rw [if_pos h1] at hc
    subst hc
    go_wp2_with fail
    go_ret
    exact ⟨rfl, rfl⟩
/-- The world W, but for draws and new blocks. -/
def GB (W w : World) : Prop := ∃ q os, w = grow (W.drewN q) os
theorem GB.refl (W : World) : GB W W := ⟨0, #[], by simp [grow, World.drewN]⟩
theorem GB.drew {W w : World} (h : GB W w) : GB W w.drew := by
  obtain ⟨q, os, rfl⟩ := h
  exact ⟨q + 1, os, rfl⟩
theorem GB.alloc {W w : World} (h : GB W w) (o : Obj) : GB W (w.alloc o) := by
  obtain ⟨q, os, rfl⟩ := h
  exact ⟨q, os ++ #[o], by rw [alloc_eq_grow, grow_grow]⟩
theorem GB.trans {W W1 w : World} (h : GB W W1) (k : GB W1 w) : GB W w := by
  obtain ⟨q, os, rfl⟩ := h
  obtain ⟨q', os', rfl⟩ := k
  refine ⟨q + q', os ++ os', ?_⟩
  show grow (grow ((W.drewN q).drewN q') os) os' = _
  rw [grow_grow, World.drewN_drewN]
theorem GB.mod {W w : World} (h : GB W w) : Mod [] W w := by
  obtain ⟨q, os, rfl⟩ := h
  exact ⟨rfl, rfl, rfl, by simp [grow, World.drewN], fun k hk _ => by rw [heap_grow_old _ _ (by simpa [World.drewN] using hk)]; rfl⟩
set_option maxHeartbeats 2000000 in
theorem cmp_ok (x y : Bor) (w : World) : Calls Try.prog 43 #[bv x, bv y] w fun e w' => e = .returned (.int .i64 (cf x y)) ∧ GB w w' := by
  obtain ⟨⟨xo, xh⟩, xm, xc⟩ := x
  obtain ⟨⟨yo, yh⟩, ym, yc⟩ := y
  unfold bv cf
  have hcmp1 := Lib.hid (compare_ok xo yo)
  have hcmp2 := Lib.hid (compare_ok xh yh)
  have hor := Lib.hid fun g w h => or_ok g (cmpI xo yo) (cmpI xh yh) w h
  show Calls _ _ _ _ fun e w' => e = .returned (.int .i64 (if cmpI xo yo ≠ 0 then cmpI xo yo else cmpI xh yh)) ∧ GB w w'
  generalize (if cmpI xo yo ≠ 0 then cmpI xo yo else cmpI xh yh) = c at *
  generalize cmpI xo yo = c1 at *
  generalize cmpI xh yh = c2 at *
  have b0 := at_alloc_old (o := .cells #[.int .i64 yo, .int .i64 yh, .int .i64 ym, .int .i64 yc] 25 (0, 0)) (at_alloc w (.cells #[.int .i64 xo, .int .i64 xh, .int .i64 xm, .int .i64 xc] 25 (0, 0)))
  have b1 := at_alloc (w.alloc (.cells #[.int .i64 xo, .int .i64 xh, .int .i64 xm, .int .i64 xc] 25 (0, 0))) (.cells #[.int .i64 yo, .int .i64 yh, .int .i64 ym, .int .i64 yc] 25 (0, 0))
  rw [World.size_alloc] at b1
  have hg := Lib.hid (((GB.refl w).alloc (.cells #[.int .i64 xo, .int .i64 xh, .int .i64 xm, .int .i64 xc] 25 (0, 0))).alloc (.cells #[.int .i64 yo, .int .i64 yh, .int .i64 ym, .int .i64 yc] 25 (0, 0)))
  go_enter Try.func43, Try.ntmps43
  go_wp2_with fail
  generalize (w.alloc (.cells #[.int .i64 xo, .int .i64 xh, .int .i64 xm, .int .i64 xc] 25 (0, 0))).alloc (.cells #[.int .i64 yo, .int .i64 yh, .int .i64 ym, .int .i64 yc] 25 (0, 0)) = W at *
  have k0 := GW.cells (S := []) b0 (by simp)
  have k1 := GW.cells (S := []) b1 (by simp)
  refine wp_region_stage (fun w' => ∃ x : GW [] W, w' = x.1) (fun w' => GB W w') (by kernel_rfl) (by kernel_rfl) (fun _ h => InGW.of h.mod) (GB.refl _).drew ?_
  refine stage_quiet 4 (by kernel_rfl) ?_
  simp only [List.take_succ_cons, List.take_zero, List.drop_succ_cons, List.drop_zero]
  repeat (go_big_quiet_step (fail))
  refine wpQuiet_nil ?_
  refine stage_go 45 _ (.int .i64 c1) (fun w' => GB W w') rfl Try.call45 rfl rfl (fun w' h => (hcmp1.out _).mono fun e w'' ⟨he, hw⟩ => ⟨he, by rw [hw]; exact h⟩) (fun _ h => InGW.of h.mod) ?_
  simp only [Act.put, List.setIfInBounds_toArray, List.set_cons_succ, List.set_cons_zero]
  refine stage_quiet 4 (by kernel_rfl) ?_
  simp only [List.take_succ_cons, List.take_zero, List.drop_succ_cons, List.drop_zero]
  repeat (go_big_quiet_step (fail))
  refine wpQuiet_nil ?_
  refine stage_go 45 _ (.int .i64 c2) (fun w' => GB W w') rfl Try.call45 rfl rfl (fun w' h => (hcmp2.out _).mono fun e w'' ⟨he, hw⟩ => ⟨he, by rw [hw]; exact h⟩) (fun _ h => InGW.of h.mod) ?_
  simp only [Act.put, List.setIfInBounds_toArray, List.set_cons_succ, List.set_cons_zero]
  refine stage_alloc (fun s => .slice (some ⟨s, 0, none⟩) 2 2) (.cells #[.int .i64 c1, .int .i64 c2] 3 (0, 0)) (fun s w' => GB W w' ∧ w'.heap[s]? = some (.cells #[.int .i64 c1, .int .i64 c2] 3 (0, 0))) (by intro s s' h; simpa using h) rfl rfl (fun w' hw => ?_) (fun w' hw => ⟨hw.alloc _, at_alloc _ _⟩) (fun s w' h => InGW.of h.1.mod) (fun s => ?_)
  · kernel_rfl
  simp only [Act.put, List.setIfInBounds_toArray, List.set_cons_succ, List.set_cons_zero]
  refine stage_go 44 _ (.int .i64 c) (fun w' => GB W w') rfl Try.call44 rfl rfl (fun w' h => (hor.out _ _ h.2).mono fun e w'' ⟨he, hw⟩ => ⟨he, by rw [hw]; exact h.1⟩) (fun _ h => InGW.of h.mod) ?_
  simp only [Act.put, List.setIfInBounds_toArray, List.set_cons_succ, List.set_cons_zero]
  refine stage_quiet 1 (by kernel_rfl) ?_
  simp only [List.take_succ_cons, List.take_zero, List.drop_succ_cons, List.drop_zero]
  repeat (go_big_quiet_step (fail))
  refine wpQuiet_nil ?_
  refine stage_nil fun w9 hw9 => ?_
  go_wp2_with fail
  go_ret
  exact ⟨rfl, hg.out.trans hw9⟩
theorem cmp_lays (blk off size : Nat) (w : World) : CmpLays Try.prog 43 #[] bcell 4 cf blk off size w := fun _ _ _ _ x y => cmp_ok x y _
end Go.Proofs.Ytappkiiihnaegaa
