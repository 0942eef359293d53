/- The handle table: Drop, of the program and of the definition. -/
import Derived.Test.YtcdmapllligjhaaTabI
namespace Go.Proofs.Ytcdmapllligjhaa
open Go Go.RowKit Go.Stg

theorem resE_zero {x : TS} {h : Int} (h0 : resE x h = 0) : ∃ j : Nat, hSlot h = j ∧ j < x.g.S.length ∧ (slotN x.g.S j).2 = true ∧ (slotN x.g.S j).1 = hGen h ∧ (entN x.E j).tag = hTag h := by
  have hs : 0 ≤ hSlot h := by unfold hSlot; omega
  obtain ⟨j, hj⟩ := Int.eq_ofNat_of_zero_le hs
  unfold resE at h0
  rw [hj] at h0
  simp only [Int.toNat_natCast, liveN_nat] at h0
  refine ⟨j, hj, ?_⟩
  by_cases c1 : (x.g.S.length : Int) ≤ j
  · rw [if_pos c1] at h0; cases h0
  · rw [if_neg c1] at h0
    by_cases c2 : (slotN x.g.S j).2 = false ∨ (slotN x.g.S j).1 ≠ hGen h
    · rw [if_pos c2] at h0; cases h0
    · rw [if_neg c2] at h0
      by_cases c3 : (entN x.E j).tag ≠ hTag h
      · rw [if_pos c3] at h0; cases h0
      · refine ⟨by omega, ?_, ?_, ?_⟩
        · cases hl : (slotN x.g.S j).2 with
          | true => rfl
          | false => exact absurd (.inl hl) c2
        · exact Classical.not_not.1 fun e => c2 (.inr e)
        · exact Classical.not_not.1 c3
def dropT (x : TS) (h : Int) : TS := if resE x h = 0 then ⟨endG x.g (hSlot h), x.E⟩ else x
theorem endG_live {x : GS} {k m : Nat} (hk : (slotN x.S k).2 = true) (hl : (slotN (endG x (k : Int)).S m).2 = true) : m ≠ k ∧ slotN (endG x (k : Int)).S m = slotN x.S m := by
  have hkl : k < x.S.length := by
    rcases Nat.lt_or_ge k x.S.length with h | h
    · exact h
    · rw [slotN_out h] at hk; cases hk
  unfold endG at hl ⊢
  rw [liveN_nat, hk, if_pos rfl, Int.toNat_natCast] at hl ⊢
  have key : ∀ g : Int, (slotN (x.S.set k (g, false)) m).2 = true → m ≠ k ∧ slotN (x.S.set k (g, false)) m = slotN x.S m := fun g h => by
    rw [slotN_set hkl] at h ⊢
    by_cases e : m = k
    · rw [if_pos e] at h; cases h
    · exact ⟨e, if_neg e⟩
  by_cases c : (slotN x.S k).1 = 4294967295
  · rw [if_pos c] at hl ⊢; exact key _ hl
  · rw [if_neg c] at hl ⊢; exact key _ hl
section
variable {n : Nat} {first : Int} {x : TS}
theorem TInv.drop (hI : TInv n first x) (h : Int) : TInv n first (dropT x h) := by
  unfold dropT
  by_cases h0 : resE x h = 0
  · rw [if_pos h0]
    obtain ⟨j, hj, hjl, hlv, _, _⟩ := resE_zero h0
    rw [hj]
    refine ⟨hI.g.endd j, hI.len, fun m hm hl => ?_⟩
    simp only at hl ⊢
    obtain ⟨hne, e⟩ := endG_live hlv hl
    rw [e] at hl ⊢
    exact hI.ok m hm hl
  · rw [if_neg h0]; exact hI
theorem Agree.drop {E E' : List Ent} (hA : Agree x E) {h : Int} (h0 : resE x h = 0) (hl' : E'.length = E.length) (hs : ∀ m : Nat, (m : Int) ≠ hSlot h → entN E' m = entN E m) : Agree (dropT x h) E' := by
  unfold dropT
  rw [if_pos h0]
  obtain ⟨j, hj, hjl, hlv, _, _⟩ := resE_zero h0
  rw [hj] at hs ⊢
  refine ⟨by rw [hl']; exact hA.1, fun m hl => ?_⟩
  simp only at hl ⊢
  obtain ⟨hne, e⟩ := endG_live hlv hl
  rw [e] at hl
  rw [hs m (by omega)]
  exact hA.2 m hl
end
section
variable {w : World} {n : Nat} {first : Int} {x : TS} (hI : TInv n first x) (hn : n ≤ 4096) (h : Int) (h0 : 0 ≤ h) (h1 : h ≤ 18446744073709551615) {f : List Nat} {tb b : Nat} {ev : Value}
include hI hn h0 h1
set_option maxHeartbeats 1000000 in
theorem tdrop_ok {pb : Nat} {sl : Value} (hc : (tabC tb ev b pb sl first x).on w f) :
    Calls Try.prog 11 #[.pointer (some ⟨tb, 0, none⟩), .int .u64 h] w (Takes (tabC tb ev b pb sl first (dropT x h)) (.int .i64 (resE x h)) w f) := by
  obtain ⟨E, hA, hH⟩ := hc
  have hS := Scene.start hH
  have hR := Lib.hid (resolve_ok hI hA h h0 h1 hn hS)
  have hSH := Lib.hid hS
  have hAH := Lib.hid hA
  unfold resV at hR
  obtain ⟨eh, eo, et, ef, el, hen⟩ : ∃ eh eo et ef el, resN x h = ⟨eh, eo, et, ef, el⟩ := ⟨_, _, _, _, _, rfl⟩
  rw [hen] at hR
  unfold entV at hR
  simp only at hR
  clear hA hH hS hen
  by_cases hz : resE x h = 0
  · obtain ⟨j, hj, hjl, hlv, _, _⟩ := resE_zero hz
    have hjE : j < E.length := by have := hAH.out.1; have := hI.len; have := hI.g.len; omega
    obtain ⟨gr, cap, rfl, _, _⟩ := row_pos (hSH.out.row 1 rfl) (by omega)
    have hA2 := Lib.hid (hAH.out.drop (E' := E.set j ent0) hz (by simp) (fun m hm => by rw [entN_set hjE, if_neg (by omega)]))
    have hSl := Lib.hid fun w' => slot_ok h h0 h1 w'
    rw [hj] at hSl
    have hEn := Lib.hid fun cs w' (i : Nat) (h : Scene f w cs w') hi => sc_end (b := b) (pb := pb) (sl := sl) hI.g i h hi hn (j : Int)
    have ev0 : endV x.g (j : Int) = 0 := by unfold endV; rw [liveN_nat, hlv]; rfl
    rw [ev0] at hEn
    have eD : dropT x h = ⟨endG x.g (j : Int), x.E⟩ := by unfold dropT; rw [if_pos hz, hj]
    rw [eD] at hA2
    rw [eD, hz]
    rw [hz] at hR
    clear eD ev0 hI hz hlv hAH
    go_enter Try.func11, Try.ntmps11
    go_wp2_with fail
    refine hR.out.mono ?_
    rintro e w1 ⟨rfl, hm1⟩
    have hS1 := Lib.hid (hSH.out.then hm1)
    have hmB := (Mod.refl [] w1).alloc (.cells #[.int .u64 eh, .int .i64 eo, .int .i64 et, .int .i64 ef, .int .i64 el] 39 (0, 0))
    have hS2 := Lib.hid (hS1.out.then hmB)
    clear hSH hR hmB hm1 hS1
    go_wp2_with fail
    refine (hSl.out _).mono ?_
    rintro e w3 ⟨rfl, hm3⟩
    have hS3 := Lib.hid (hS2.out.then hm3)
    clear hS2 hSl hm3
    have hrow := hS3.out.row 1 rfl
    have r0 := row_cell ent_length hrow hjE rfl (k := 0) (by omega)
    have r1 := row_cell ent_length hrow hjE rfl (k := 1) (by omega)
    have r2 := row_cell ent_length hrow hjE rfl (k := 2) (by omega)
    have r3 := row_cell ent_length hrow hjE rfl (k := 3) (by omega)
    have r4 := row_cell ent_length hrow hjE rfl (k := 4) (by omega)
    simp only [ent, List.getElem?_cons_zero, List.getElem?_cons_succ, Nat.add_zero] at r0 r1 r2 r3 r4
    have hfr := fun k => hrow.frozenAt k
    have hcb := cells_of (hS3.out.block 0 rfl)
    have hS4 : Scene f w _ (((((w3.setCell ⟨gr, j * 5, none⟩ (.int .u64 0)).setCell ⟨gr, j * 5 + 1, none⟩ (.int .i64 0)).setCell ⟨gr, j * 5 + 2, none⟩ (.int .i64 0)).setCell ⟨gr, j * 5 + 3, none⟩ (.int .i64 0)).setCell ⟨gr, j * 5 + 4, none⟩ (.int .i64 0)) :=
      hS3.out.rowPut ent_length (by omega) 1 rfl hjE ent0
    have hcb4 := cells_of (hS4.block 0 rfl)
    have hS4 := Lib.hid hS4
    clear hrow hS3
    go_wp2_with fail
    refine (hEn.out _ _ 2 hS4.out rfl).mono ?_
    rintro e w5 ⟨rfl, hS5⟩
    have hS5 := Lib.hid hS5
    clear hEn hS4 hcb hcb4 hfr r0 r1 r2 r3 r4
    go_wp2_with fail
    go_ret
    obtain ⟨f', q1, q2, q3⟩ := hS5.out.done
    refine ⟨f', rfl, ⟨_, hA2.out, ?_⟩, q2, q3⟩
    unfold tabP
    rw [List.length_set]
    exact q1
  · have eD : dropT x h = x := by unfold dropT; rw [if_neg hz]
    rw [eD]
    generalize resE x h = r at *
    clear eD hI
    go_enter Try.func11, Try.ntmps11
    go_wp2_with fail
    refine hR.out.mono ?_
    rintro e w1 ⟨rfl, hm1⟩
    have hS1 := Lib.hid (hSH.out.then hm1)
    have hmB := (Mod.refl [] w1).alloc (.cells #[.int .u64 eh, .int .i64 eo, .int .i64 et, .int .i64 ef, .int .i64 el] 39 (0, 0))
    have hS2 := Lib.hid (hS1.out.then hmB)
    clear hSH hR hmB hm1 hS1
    have hz2 : (r == 0) = false := by simp only [beq_eq_false_iff_ne]; omega
    go_wp2_with fail
    go_ret
    obtain ⟨f', q1, q2, q3⟩ := hS2.out.done
    exact ⟨f', rfl, ⟨E, hAH.out, q1⟩, q2, q3⟩
set_option maxHeartbeats 1000000 in
theorem rtdrop_ok {gv lv : Value} (hc : (rtabC tb ev b gv lv first x).on w f) :
    Calls Try.prog 23 #[.pointer (some ⟨tb, 0, none⟩), .int .u64 h] w (Takes (rtabC tb ev b gv lv first (dropT x h)) (.int .i64 (resE x h)) w f) := by
  obtain ⟨E, hA, hH⟩ := hc
  have hS := Scene.start hH
  have hR := Lib.hid (rresolve_ok hI hA h h0 h1 hn hS)
  have hSH := Lib.hid hS
  have hAH := Lib.hid hA
  unfold resV at hR
  obtain ⟨eh, eo, et, ef, el, hen⟩ : ∃ eh eo et ef el, resN x h = ⟨eh, eo, et, ef, el⟩ := ⟨_, _, _, _, _, rfl⟩
  rw [hen] at hR
  unfold entV at hR
  simp only at hR
  clear hA hH hS hen
  by_cases hz : resE x h = 0
  · obtain ⟨j, hj, hjl, hlv, _, _⟩ := resE_zero hz
    have hjE : j < E.length := by have := hAH.out.1; have := hI.len; have := hI.g.len; omega
    have hA2 := Lib.hid (hAH.out.drop (E' := E) hz rfl (fun m hm => rfl))
    have hSl := Lib.hid fun w' => rslot_ok h h0 h1 w'
    rw [hj] at hSl
    have hEn := Lib.hid fun cs w' (i : Nat) (h : Scene f w cs w') hi => sc_rend (b := b) (gv := gv) (lv := lv) hI.g i h hi hn (j : Int)
    have ev0 : endV x.g (j : Int) = 0 := by unfold endV; rw [liveN_nat, hlv]; rfl
    rw [ev0] at hEn
    have eD : dropT x h = ⟨endG x.g (j : Int), x.E⟩ := by unfold dropT; rw [if_pos hz, hj]
    rw [eD] at hA2
    rw [eD, hz]
    rw [hz] at hR
    clear eD ev0 hI hz hlv hAH
    go_enter Try.func23, Try.ntmps23
    go_wp2_with fail
    refine hR.out.mono ?_
    rintro e w1 ⟨rfl, hm1⟩
    have hS1 := Lib.hid (hSH.out.then hm1)
    have hmB := (Mod.refl [] w1).alloc (.cells #[.int .u64 eh, .int .i64 eo, .int .i64 et, .int .i64 ef, .int .i64 el] 39 (0, 0))
    have hS2 := Lib.hid (hS1.out.then hmB)
    clear hSH hR hmB hm1 hS1
    go_wp2_with fail
    have k1 := @BW.cells tb #[.pointer (some ⟨b, 0, none⟩), ev] 84 (0, 0)
    refine wp_region_scene tb _ hS2.out (fun w' h => h.block 0 rfl) (by kernel_rfl) (by kernel_rfl) ?_
    refine stage_quiet 5 (by kernel_rfl) ?_
    simp only [List.take_succ_cons, List.take_zero, List.drop_succ_cons, List.drop_zero]
    repeat (go_big_quiet_step (fail))
    refine wpQuiet_nil ?_
    refine stage_go 14 _ (.int .i64 j) (fun w' => Scene f w (rtabP tb ev b gv lv first x E) w') rfl Try.call14 rfl rfl (fun w' hw => (hSl.out w').mono fun e w'' ⟨he, hm⟩ => ⟨he, hw.then hm⟩) (fun w' hw => BW.of (hw.block 0 rfl)) ?_
    simp only [Act.put, List.setIfInBounds_toArray, List.set_cons_succ, List.set_cons_zero]
    refine stage_go 47 _ (.int .i64 0) (fun w' => Scene f w ((rtabP tb ev b gv lv first x E).set 2 (rgenC b gv lv first (endG x.g j))) w') rfl Try.call47 rfl rfl (fun w' hw => hEn.out _ w' 2 hw rfl) (fun w' hw => BW.of (hw.block 0 rfl)) ?_
    simp only [Act.put, List.setIfInBounds_toArray, List.set_cons_succ, List.set_cons_zero]
    refine stage_quiet 1 (by kernel_rfl) ?_
    simp only [List.take_succ_cons, List.take_zero, List.drop_succ_cons, List.drop_zero]
    repeat (go_big_quiet_step (fail))
    refine wpQuiet_nil ?_
    refine stage_nil fun w5 hS5 => ?_
    have hS5 := Lib.hid hS5
    clear k1 hEn hSl hS2
    go_wp2_with fail
    go_ret
    obtain ⟨f', q1, q2, q3⟩ := hS5.out.done
    exact ⟨f', rfl, ⟨_, hA2.out, q1⟩, q2, q3⟩
  · have eD : dropT x h = x := by unfold dropT; rw [if_neg hz]
    rw [eD]
    generalize resE x h = r at *
    clear eD hI
    go_enter Try.func23, Try.ntmps23
    go_wp2_with fail
    refine hR.out.mono ?_
    rintro e w1 ⟨rfl, hm1⟩
    have hS1 := Lib.hid (hSH.out.then hm1)
    have hmB := (Mod.refl [] w1).alloc (.cells #[.int .u64 eh, .int .i64 eo, .int .i64 et, .int .i64 ef, .int .i64 el] 39 (0, 0))
    have hS2 := Lib.hid (hS1.out.then hmB)
    clear hSH hR hmB hm1 hS1
    have hz2 : (r == 0) = false := by simp only [beq_eq_false_iff_ne]; omega
    go_wp2_with fail
    go_ret
    obtain ⟨f', q1, q2, q3⟩ := hS2.out.done
    exact ⟨f', rfl, ⟨E, hAH.out, q1⟩, q2, q3⟩
end
end Go.Proofs.Ytcdmapllligjhaa
