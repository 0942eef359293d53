/- The handle table: Give, of the program and of the definition. -/
import Derived.Test.YtcdmapllligjhaaTabD
namespace Go.Proofs.Ytcdmapllligjhaa
open Go Go.RowKit Go.Stg

def badO (owner : Int) : Prop := owner < 1 ∨ 64 < owner
instance (owner : Int) : Decidable (badO owner) := by unfold badO; infer_instance
def giveE (x : TS) (h owner : Int) : Int := if resE x h = 0 then (if badO owner then 1 else 0) else resE x h
def giveT (x : TS) (h owner : Int) : TS := if resE x h = 0 ∧ ¬ badO owner then ⟨x.g, x.E.set (hSlot h).toNat { entN x.E (hSlot h).toNat with owner := owner }⟩ else x
section
variable {n : Nat} {first : Int} {x : TS} (hI : TInv n first x)
include hI
theorem TInv.give (h owner : Int) : TInv n first (giveT x h owner) := by
  unfold giveT
  by_cases h0 : resE x h = 0 ∧ ¬ badO owner
  · rw [if_pos h0]
    obtain ⟨j, hj, hjl, hlv, _, _⟩ := resE_zero h0.1
    rw [hj, Int.toNat_natCast]
    have hjE : j < x.E.length := by have := hI.len; have := hI.g.len; omega
    refine ⟨hI.g, by rw [List.length_set]; exact hI.len, fun m hm hl => ?_⟩
    simp only at hl ⊢
    rw [entN_set hjE]
    have := hI.ok m hm hl
    by_cases e : m = j
    · subst e; rw [if_pos rfl]; exact this
    · rw [if_neg e]; exact this
  · rw [if_neg h0]; exact hI
theorem Agree.give {E : List Ent} (hA : Agree x E) {h owner : Int} (h0 : resE x h = 0) (hb : ¬ badO owner) {j : Nat} (hj : hSlot h = j) : Agree (giveT x h owner) (E.set j { entN E j with owner := owner }) := by
  unfold giveT
  rw [if_pos ⟨h0, hb⟩, hj, Int.toNat_natCast]
  obtain ⟨j', hj', hjl, hlv, _, _⟩ := resE_zero h0
  obtain rfl : j = j' := by omega
  have hjE : j < x.E.length := by have := hI.len; have := hI.g.len; omega
  refine ⟨by simp [hA.1], fun m hl => ?_⟩
  simp only at hl ⊢
  rw [entN_set hjE, entN_set (by rw [hA.1]; exact hjE), hA.2 j hlv]
  by_cases e : m = j
  · rw [if_pos e, if_pos e]
  · rw [if_neg e, if_neg e]; exact hA.2 m hl
end
section
variable {w : World} {n : Nat} {first : Int} {x : TS} (hI : TInv n first x) (hn : n ≤ 4096) (h : Int) (h0 : 0 ≤ h) (h1 : h ≤ 18446744073709551615) (owner : Int) {f : List Nat} {tb b : Nat} {ev : Value}
include hI hn h0 h1
set_option maxHeartbeats 1000000 in
theorem tgive_ok {pb : Nat} {sl : Value} (hc : (tabC tb ev b pb sl first x).on w f) :
    Calls Try.prog 15 #[.pointer (some ⟨tb, 0, none⟩), .int .u64 h, .int .i64 owner] w (Takes (tabC tb ev b pb sl first (giveT x h owner)) (.int .i64 (giveE x h owner)) w f) := by
  obtain ⟨E, hA, hH⟩ := hc
  have hS := Scene.start hH
  have hR := Lib.hid (resolve_ok hI hA h h0 h1 hn hS)
  have hSH := Lib.hid hS
  have hAH := Lib.hid hA
  unfold resV at hR
  obtain ⟨eh, eo, et, ef, el, hen⟩ : ∃ eh eo et ef el, resN x h = ⟨eh, eo, et, ef, el⟩ := ⟨_, _, _, _, _, rfl⟩
  rw [hen] at hR
  unfold entV at hR
  simp only at hR
  clear hA hH hS hen
  by_cases hz : resE x h = 0
  · by_cases hb : badO owner
    · have eD : giveT x h owner = x := by unfold giveT; rw [if_neg (fun e => e.2 hb)]
      have eV : giveE x h owner = 1 := by unfold giveE; rw [if_pos hz, if_pos hb]
      rw [eD, eV]
      rw [hz] at hR
      clear eD eV hI hz
      go_enter Try.func15, Try.ntmps15
      go_wp2_with fail
      refine hR.out.mono ?_
      rintro e w1 ⟨rfl, hm1⟩
      have hS1 := Lib.hid (hSH.out.then hm1)
      have hmB := (Mod.refl [] w1).alloc (.cells #[.int .u64 eh, .int .i64 eo, .int .i64 et, .int .i64 ef, .int .i64 el] 39 (0, 0))
      have hS2 := Lib.hid (hS1.out.then hmB)
      clear hSH hR hmB hm1 hS1
      unfold badO at hb
      have ed : decide (1 ≤ owner ∧ owner ≤ 64) = false := by simp only [decide_eq_false_iff_not]; omega
      go_wp2_with fail
      refine (isP_ok owner _).mono ?_
      rintro e w3 ⟨rfl, hm3⟩
      have hS3 := Lib.hid ((hS2).out.then hm3)
      rw [ed]
      clear hS2
      go_wp2_with fail
      go_ret
      obtain ⟨f', q1, q2, q3⟩ := hS3.out.done
      exact ⟨f', rfl, ⟨E, hAH.out, q1⟩, q2, q3⟩
    · obtain ⟨j, hj, hjl, hlv, hx1, hx2⟩ := resE_zero hz
      clear hx1 hx2
      have hjE : j < E.length := by have := hAH.out.1; have := hI.len; have := hI.g.len; omega
      obtain ⟨gr, cap, rfl, _, _⟩ := row_pos (hSH.out.row 1 rfl) (by omega)
      have hA2 := Lib.hid (hAH.out.give hI hz hb hj)
      have eV : giveE x h owner = 0 := by unfold giveE; rw [if_pos hz, if_neg hb]
      have hSl := Lib.hid fun w' => slot_ok h h0 h1 w'
      rw [hj] at hSl
      have eD : giveT x h owner = ⟨x.g, x.E.set j { entN x.E j with owner := owner }⟩ := by unfold giveT; rw [if_pos ⟨hz, hb⟩, hj, Int.toNat_natCast]
      rw [eD] at hA2
      rw [eD, eV]
      rw [hz] at hR
      clear eD eV hI hz hlv hAH
      go_enter Try.func15, Try.ntmps15
      go_wp2_with fail
      refine hR.out.mono ?_
      rintro e w1 ⟨rfl, hm1⟩
      have hS1 := Lib.hid (hSH.out.then hm1)
      have hmB := (Mod.refl [] w1).alloc (.cells #[.int .u64 eh, .int .i64 eo, .int .i64 et, .int .i64 ef, .int .i64 el] 39 (0, 0))
      have hS2 := Lib.hid (hS1.out.then hmB)
      clear hSH hR hmB hm1 hS1
      have hb' : 1 ≤ owner ∧ owner ≤ 64 := by unfold badO at hb; omega
      clear hb
      have ed : decide (1 ≤ owner ∧ owner ≤ 64) = true := by simp [hb']
      go_wp2_with fail
      refine (isP_ok owner _).mono ?_
      rintro e w3 ⟨rfl, hm3⟩
      have hS3 := Lib.hid (hS2.out.then hm3)
      rw [ed]
      clear hS2 ed
      go_wp2_with fail
      have k1 := GW.cells (S := []) (hS3.out.block 0 rfl) (by simp)
      refine wp_region_pure (by kernel_rfl) (by kernel_rfl) ?_
      refine stage_quiet 5 (by kernel_rfl) ?_
      simp only [List.take_succ_cons, List.take_zero, List.drop_succ_cons, List.drop_zero]
      repeat (go_big_quiet_step (fail))
      refine wpQuiet_nil ?_
      refine stage_pure 33 _ (.int .i64 j) rfl Try.call33 rfl rfl (fun w' _ => hSl.out w') ?_
      simp only [Act.put, List.setIfInBounds_toArray, List.set_cons_succ, List.set_cons_zero]
      refine stage_quiet 3 (by kernel_rfl) ?_
      simp only [List.take_succ_cons, List.take_zero, List.drop_succ_cons, List.drop_zero]
      repeat (go_big_quiet_step (fail))
      refine wpQuiet_nil ?_
      refine stage_store (p := ⟨gr, j * 5 + 1, none⟩) (u := .int .i64 owner) (fun w' => w'.setCell ⟨gr, j * 5 + 1, none⟩ (.int .i64 owner)) rfl rfl (by kernel_rfl) rfl rfl rfl (fun w' hw => ?_) (fun w' hw => ?_)
      · have hrow := (hS3.out.then hw).row 1 rfl
        have r1 := row_cell ent_length hrow hjE rfl (k := 1) (by omega)
        have hfr := hrow.frozenAt (j * 5 + 1)
        simp only [ent, List.getElem?_cons_zero, List.getElem?_cons_succ] at r1
        clear k1
        go_simp
      · have h5 := (hS3.out.then hw).rowSet ent_length 1 rfl hjE (k := 1) (by omega) { entN E j with owner := owner } (.int .i64 owner) (by rw [entN_at hjE]; rfl)
        clear k1
        generalize w'.setCell ⟨gr, j * 5 + 1, none⟩ (.int .i64 owner) = w5 at *
        have h5 := Lib.hid h5
        go_wp2_with fail
        go_ret
        obtain ⟨f', q1, q2, q3⟩ := h5.out.done
        refine ⟨f', rfl, ⟨_, hA2.out, ?_⟩, q2, q3⟩
        unfold tabP
        rw [List.length_set]
        exact q1
  · have eD : giveT x h owner = x := by unfold giveT; rw [if_neg (fun e => hz e.1)]
    have eV : giveE x h owner = resE x h := by unfold giveE; rw [if_neg hz]
    rw [eD, eV]
    generalize resE x h = r at *
    clear eD eV hI
    go_enter Try.func15, Try.ntmps15
    go_wp2_with fail
    refine hR.out.mono ?_
    rintro e w1 ⟨rfl, hm1⟩
    have hS1 := Lib.hid (hSH.out.then hm1)
    have hmB := (Mod.refl [] w1).alloc (.cells #[.int .u64 eh, .int .i64 eo, .int .i64 et, .int .i64 ef, .int .i64 el] 39 (0, 0))
    have hS2 := Lib.hid (hS1.out.then hmB)
    clear hSH hR hmB hm1 hS1
    have hz2 : (r == 0) = false := by simp only [beq_eq_false_iff_ne]; omega
    go_wp2_with fail
    go_ret
    obtain ⟨f', q1, q2, q3⟩ := hS2.out.done
    exact ⟨f', rfl, ⟨E, hAH.out, q1⟩, q2, q3⟩
set_option maxHeartbeats 1000000 in
theorem rtgive_ok {gv lv : Value} (hc : (rtabC tb ev b gv lv first x).on w f) :
    Calls Try.prog 22 #[.pointer (some ⟨tb, 0, none⟩), .int .u64 h, .int .i64 owner] w (Takes (rtabC tb ev b gv lv first (giveT x h owner)) (.int .i64 (giveE x h owner)) w f) := by
  obtain ⟨E, hA, hH⟩ := hc
  have hS := Scene.start hH
  have hR := Lib.hid (rresolve_ok hI hA h h0 h1 hn hS)
  have hSH := Lib.hid hS
  have hAH := Lib.hid hA
  unfold resV at hR
  obtain ⟨eh, eo, et, ef, el, hen⟩ : ∃ eh eo et ef el, resN x h = ⟨eh, eo, et, ef, el⟩ := ⟨_, _, _, _, _, rfl⟩
  rw [hen] at hR
  unfold entV at hR
  simp only at hR
  clear hA hH hS hen
  by_cases hz : resE x h = 0
  · by_cases hb : badO owner
    · have eD : giveT x h owner = x := by unfold giveT; rw [if_neg (fun e => e.2 hb)]
      have eV : giveE x h owner = 1 := by unfold giveE; rw [if_pos hz, if_pos hb]
      rw [eD, eV]
      rw [hz] at hR
      clear eD eV hI hz
      go_enter Try.func22, Try.ntmps22
      go_wp2_with fail
      refine hR.out.mono ?_
      rintro e w1 ⟨rfl, hm1⟩
      have hS1 := Lib.hid (hSH.out.then hm1)
      have hmB := (Mod.refl [] w1).alloc (.cells #[.int .u64 eh, .int .i64 eo, .int .i64 et, .int .i64 ef, .int .i64 el] 39 (0, 0))
      have hS2 := Lib.hid (hS1.out.then hmB)
      clear hSH hR hmB hm1 hS1
      unfold badO at hb
      rcases show owner < 1 ∨ (1 ≤ owner ∧ 64 < owner) by omega with c1 | ⟨c1, c2⟩
      all_goals
        clear hb
        go_wp2_with fail
        go_ret
        obtain ⟨f', q1, q2, q3⟩ := (hS2).out.done
        exact ⟨f', rfl, ⟨E, hAH.out, q1⟩, q2, q3⟩
    · obtain ⟨j, hj, hjl, hlv, hx1, hx2⟩ := resE_zero hz
      clear hx1 hx2
      have hjE : j < E.length := by have := hAH.out.1; have := hI.len; have := hI.g.len; omega
      obtain ⟨gr, cap, rfl, _, _⟩ := row_pos (hSH.out.row 1 rfl) (by omega)
      have hA2 := Lib.hid (hAH.out.give hI hz hb hj)
      have eV : giveE x h owner = 0 := by unfold giveE; rw [if_pos hz, if_neg hb]
      have hSl := Lib.hid fun w' => rslot_ok h h0 h1 w'
      rw [hj] at hSl
      have eD : giveT x h owner = ⟨x.g, x.E.set j { entN x.E j with owner := owner }⟩ := by unfold giveT; rw [if_pos ⟨hz, hb⟩, hj, Int.toNat_natCast]
      rw [eD] at hA2
      rw [eD, eV]
      rw [hz] at hR
      clear eD eV hI hz hlv hAH
      go_enter Try.func22, Try.ntmps22
      go_wp2_with fail
      refine hR.out.mono ?_
      rintro e w1 ⟨rfl, hm1⟩
      have hS1 := Lib.hid (hSH.out.then hm1)
      have hmB := (Mod.refl [] w1).alloc (.cells #[.int .u64 eh, .int .i64 eo, .int .i64 et, .int .i64 ef, .int .i64 el] 39 (0, 0))
      have hS2 := Lib.hid (hS1.out.then hmB)
      clear hSH hR hmB hm1 hS1
      have hb' : 1 ≤ owner ∧ owner ≤ 64 := by unfold badO at hb; omega
      clear hb
      have hS3 := hS2
      obtain ⟨hb1, hb2⟩ := hb'
      clear hS2
      go_wp2_with fail
      have k1 := GW.cells (S := []) (hS3.out.block 0 rfl) (by simp)
      refine wp_region_pure (by kernel_rfl) (by kernel_rfl) ?_
      refine stage_quiet 5 (by kernel_rfl) ?_
      simp only [List.take_succ_cons, List.take_zero, List.drop_succ_cons, List.drop_zero]
      repeat (go_big_quiet_step (fail))
      refine wpQuiet_nil ?_
      refine stage_pure 14 _ (.int .i64 j) rfl Try.call14 rfl rfl (fun w' _ => hSl.out w') ?_
      simp only [Act.put, List.setIfInBounds_toArray, List.set_cons_succ, List.set_cons_zero]
      refine stage_quiet 3 (by kernel_rfl) ?_
      simp only [List.take_succ_cons, List.take_zero, List.drop_succ_cons, List.drop_zero]
      repeat (go_big_quiet_step (fail))
      refine wpQuiet_nil ?_
      refine stage_store (p := ⟨gr, j * 5 + 1, none⟩) (u := .int .i64 owner) (fun w' => w'.setCell ⟨gr, j * 5 + 1, none⟩ (.int .i64 owner)) rfl rfl (by kernel_rfl) rfl rfl rfl (fun w' hw => ?_) (fun w' hw => ?_)
      · have hrow := (hS3.out.then hw).row 1 rfl
        have r1 := row_cell ent_length hrow hjE rfl (k := 1) (by omega)
        have hfr := hrow.frozenAt (j * 5 + 1)
        simp only [ent, List.getElem?_cons_zero, List.getElem?_cons_succ] at r1
        clear k1
        go_simp
      · have h5 := (hS3.out.then hw).rowSet ent_length 1 rfl hjE (k := 1) (by omega) { entN E j with owner := owner } (.int .i64 owner) (by rw [entN_at hjE]; rfl)
        clear k1
        generalize w'.setCell ⟨gr, j * 5 + 1, none⟩ (.int .i64 owner) = w5 at *
        have h5 := Lib.hid h5
        go_wp2_with fail
        go_ret
        obtain ⟨f', q1, q2, q3⟩ := h5.out.done
        refine ⟨f', rfl, ⟨_, hA2.out, ?_⟩, q2, q3⟩
        unfold rtabP
        rw [List.length_set]
        exact q1
  · have eD : giveT x h owner = x := by unfold giveT; rw [if_neg (fun e => hz e.1)]
    have eV : giveE x h owner = resE x h := by unfold giveE; rw [if_neg hz]
    rw [eD, eV]
    generalize resE x h = r at *
    clear eD eV hI
    go_enter Try.func22, Try.ntmps22
    go_wp2_with fail
    refine hR.out.mono ?_
    rintro e w1 ⟨rfl, hm1⟩
    have hS1 := Lib.hid (hSH.out.then hm1)
    have hmB := (Mod.refl [] w1).alloc (.cells #[.int .u64 eh, .int .i64 eo, .int .i64 et, .int .i64 ef, .int .i64 el] 39 (0, 0))
    have hS2 := Lib.hid (hS1.out.then hmB)
    clear hSH hR hmB hm1 hS1
    have hz2 : (r == 0) = false := by simp only [beq_eq_false_iff_ne]; omega
    go_wp2_with fail
    go_ret
    obtain ⟨f', q1, q2, q3⟩ := hS2.out.done
    exact ⟨f', rfl, ⟨E, hAH.out, q1⟩, q2, q3⟩
end
end Go.Proofs.Ytcdmapllligjhaa
