/- The definition's handle table: what resolves. -/
import Derived.Test.YtcdmapllligjhaaTab
namespace Go.Proofs.Ytcdmapllligjhaa
open Go Go.RowKit Go.Stg
/-- The same, of the definition. -/
structure RTView (w : World) (tb b q : Nat) (gv lv fv ev : Value) (first : Int) (x : TS) (E : List Ent) : Prop where
  blk : w.heap[tb]? = some (.cells #[.pointer (some ⟨b, 0, none⟩), ev] 84 (0, 0))
  row : w.ownsRow 0 39 5 ev E.length (flat ent E)
  gen : RAt w b first x.g.S x.g.F x.g.ret gv lv fv
  res : w.heap[q]? = some (.cells #[.int .u64 0, .int .i64 0, .int .i64 0, .int .i64 0, .int .i64 0] 39 (0, 0))
theorem RTView.mod {w w' : World} {tb b q : Nat} {gv lv fv ev : Value} {first : Int} {x : TS} {E : List Ent} (h : RTView w tb b q gv lv fv ev first x E) (hm : Mod [] w w') : RTView w' tb b q gv lv fv ev first x E :=
  ⟨hm.at h.blk (by simp), row_mod h.row hm (by simp), h.gen.mod hm (by simp), hm.at h.res (by simp)⟩
section
variable {w : World} {n : Nat} {first : Int} {x : TS} {E : List Ent} {ev : Value} (hI : TInv n first x) (hA : Agree x E) (h : Int) (h0 : 0 ≤ h) (h1 : h ≤ 18446744073709551615) (hn : n ≤ 4096)
include hI hA h0 h1 hn
set_option maxHeartbeats 1000000 in
theorem rresolve_ok {F : List Nat} {W : World} {tb b : Nat} {gv lv : Value} (hS : Scene F W (rtabP tb ev b gv lv first x E) w) :
    Calls Try.prog 21 #[.pointer (some ⟨tb, 0, none⟩), .int .u64 h] w fun e w' => e = .returned (resV x h) ∧ Mod [] w w' := by
  obtain ⟨fv, hG⟩ := sc_rgen 2 hS rfl
  have hlen := hI.g.len
  have hl2 := hI.len
  have hl3 := hA.1
  have hA2 := hA.2
  have hm1 := (Mod.refl [] w).alloc (.cells #[.int .u64 0, .int .i64 0, .int .i64 0, .int .i64 0, .int .i64 0] 39 (0, 0))
  have hV : RTView (w.alloc (.cells #[.int .u64 0, .int .i64 0, .int .i64 0, .int .i64 0, .int .i64 0] 39 (0, 0))) tb b w.heap.size gv lv fv ev first x E :=
    ⟨at_alloc_old (hS.block 0 rfl), row_mod (hS.row 1 rfl) hm1 (by simp), hG.mod hm1 (by simp), at_alloc _ _⟩
  have hok := hI.ok
  have hpp := pack_parts h
  have hs0 : 0 ≤ hSlot h ∧ hSlot h ≤ 16777215 := by unfold hSlot; omega
  have hH1 := Lib.hid hm1
  have hVH := Lib.hid hV
  have hSl := Lib.hid fun w => rslot_ok h h0 h1 w
  have hGe := Lib.hid fun w => rgen_ok h h0 h1 w
  have hE0 : resE x h = resE x h := rfl
  unfold resV resN
  unfold resE at hE0 ⊢
  generalize hSlot h = s at *
  generalize hGen h = g at *
  generalize hTag h = t at *
  obtain ⟨j, rfl⟩ := Int.eq_ofNat_of_zero_le hs0.1
  simp only [Int.toNat_natCast, liveN_nat, hlen]
  have hAj := hA2 j
  have hok := hok j
  clear hA2
  obtain ⟨eh, eo, et, ef, el, hen⟩ : ∃ eh eo et ef el, entN x.E j = ⟨eh, eo, et, ef, el⟩ := ⟨_, _, _, _, _, rfl⟩
  rw [hen] at hAj hok
  simp only [hen]
  have hAjH := Lib.hid hAj
  have hokH := Lib.hid hok
  have hppH := Lib.hid hpp
  have hln := fun ty w' => row_len (ty := ty) Try.underlying29 hV.row w'
  clear hAj hen hok hpp
  clear hE0 hG hS hI hA hm1 hV
  go_enter Try.func21, Try.ntmps21
  go_wp2_with fail
  refine (hSl.out _).mono ?_
  rintro e w2 ⟨rfl, hm2⟩
  have hV2 := Lib.hid (hVH.out.mod hm2)
  have hm2 := hH1.out.nil_then hm2
  clear hVH hH1
  have hV4 := hV2
  have hm4 := hm2
  clear hV2 hm2
  have hcq := cells_of hV4.out.res
  have hfq := frozen_of hV4.out.res
  have hcb := cells_of hV4.out.blk
  by_cases c1 : (n : Int) ≤ j
  · go_wp2_with fail
    have hq5 := (at_setCell (o := 4) (v := .int .i64 0) (at_setCell (o := 3) (v := .int .i64 0) (at_setCell (o := 2) (v := .int .i64 0) (at_setCell (o := 1) (v := .int .i64 0) (at_setCell (o := 0) (v := .int .u64 0) (hV4.out.res))))))
    have hm5 := ((((((hm4).setCell (p := ⟨w.heap.size, 0, none⟩) (.inr (Nat.le_refl _)) (.int .u64 0)).setCell (p := ⟨w.heap.size, 1, none⟩) (.inr (Nat.le_refl _)) (.int .i64 0)).setCell (p := ⟨w.heap.size, 2, none⟩) (.inr (Nat.le_refl _)) (.int .i64 0)).setCell (p := ⟨w.heap.size, 3, none⟩) (.inr (Nat.le_refl _)) (.int .i64 0)).setCell (p := ⟨w.heap.size, 4, none⟩) (.inr (Nat.le_refl _)) (.int .i64 0))
    refine bodyPost_ret (ret_cell_tmp Try.results21 rfl rfl hq5 Try.underlying39 rfl (by kernel_rfl)) rfl ?_
    exact ⟨rfl, hm5⟩
  · have hjn : j < E.length := by omega
    obtain ⟨gr, cap, rfl, _, _⟩ := row_pos hV4.out.row (by omega)
    go_wp2_with fail
    have hlv := rof_ok hV4.out.gen j
    rw [liveN_nat, Int.toNat_natCast] at hlv
    have hAj := hAjH.out
    have hok := hokH.out
    rw [entN_at hjn] at hAj
    clear hAjH hokH
    generalize hsl : slotN x.g.S j = sl0 at *
    rcases sl0 with ⟨ge, le⟩
    simp only at hlv hAj
    refine hlv.mono ?_
    rintro e w5 ⟨rfl, hm5⟩
    have hV5 := Lib.hid (hV4.out.mod hm5)
    have hm5 := hm4.nil_then hm5
    clear hlv hm4 hV4 hcq hfq hcb
    cases le with
    | false =>
      have hcq := cells_of hV5.out.res
      have hfq := frozen_of hV5.out.res
      go_wp2_with fail
      all_goals
        have hq5 := (at_setCell (o := 4) (v := .int .i64 0) (at_setCell (o := 3) (v := .int .i64 0) (at_setCell (o := 2) (v := .int .i64 0) (at_setCell (o := 1) (v := .int .i64 0) (at_setCell (o := 0) (v := .int .u64 0) (hV5.out.res))))))
        have hm5 := ((((((hm5).setCell (p := ⟨w.heap.size, 0, none⟩) (.inr (Nat.le_refl _)) (.int .u64 0)).setCell (p := ⟨w.heap.size, 1, none⟩) (.inr (Nat.le_refl _)) (.int .i64 0)).setCell (p := ⟨w.heap.size, 2, none⟩) (.inr (Nat.le_refl _)) (.int .i64 0)).setCell (p := ⟨w.heap.size, 3, none⟩) (.inr (Nat.le_refl _)) (.int .i64 0)).setCell (p := ⟨w.heap.size, 4, none⟩) (.inr (Nat.le_refl _)) (.int .i64 0))
        refine bodyPost_ret (ret_cell_tmp Try.results21 rfl rfl hq5 Try.underlying39 rfl (by kernel_rfl)) rfl ?_
        exact ⟨rfl, hm5⟩
    | true =>
      have hcq := cells_of hV5.out.res
      have hfq := frozen_of hV5.out.res
      go_wp2_with fail
      refine (hGe.out _).mono ?_
      rintro e w6 ⟨rfl, hm6⟩
      have hV6 := Lib.hid (hV5.out.mod hm6)
      have hm6 := hm5.nil_then hm6
      clear hm5 hV5 hcq hfq
      have hcq := cells_of hV6.out.res
      have hfq := frozen_of hV6.out.res
      by_cases c2 : ge = g
      · subst c2
        have hAj := hAj (by simp)
        have hrow := hV6.out.row
        have r0 := row_cell ent_length hrow hjn rfl (k := 0) (by omega)
        have r1 := row_cell ent_length hrow hjn rfl (k := 1) (by omega)
        have r2 := row_cell ent_length hrow hjn rfl (k := 2) (by omega)
        have r3 := row_cell ent_length hrow hjn rfl (k := 3) (by omega)
        have r4 := row_cell ent_length hrow hjn rfl (k := 4) (by omega)
        rw [hAj] at r0 r1 r2 r3 r4
        simp only [ent, List.getElem?_cons_zero, List.getElem?_cons_succ, Nat.add_zero] at r0 r1 r2 r3 r4
        have hek := (hok (by omega) (by simp)).2
        clear hrow hok
        have hcb := cells_of hV6.out.blk
        by_cases c3 : et = t
        · have c4 : eh = h := by rw [hek, c3]; exact hppH.out
          clear hek
          subst c3
          subst c4
          go_wp2_with fail
          all_goals
            have hq5 := (at_setCell (o := 4) (v := .int .i64 el) (at_setCell (o := 3) (v := .int .i64 ef) (at_setCell (o := 2) (v := .int .i64 et) (at_setCell (o := 1) (v := .int .i64 eo) (at_setCell (o := 0) (v := .int .u64 eh) (hV6.out.res))))))
            have hm5 := ((((((hm6).setCell (p := ⟨w.heap.size, 0, none⟩) (.inr (Nat.le_refl _)) (.int .u64 eh)).setCell (p := ⟨w.heap.size, 1, none⟩) (.inr (Nat.le_refl _)) (.int .i64 eo)).setCell (p := ⟨w.heap.size, 2, none⟩) (.inr (Nat.le_refl _)) (.int .i64 et)).setCell (p := ⟨w.heap.size, 3, none⟩) (.inr (Nat.le_refl _)) (.int .i64 ef)).setCell (p := ⟨w.heap.size, 4, none⟩) (.inr (Nat.le_refl _)) (.int .i64 el))
            refine bodyPost_ret (ret_cell_tmp Try.results21 rfl rfl hq5 Try.underlying39 rfl (by kernel_rfl)) rfl ?_
            exact ⟨rfl, hm5⟩
        · have c4 : eh ≠ h := fun e => c3 (by have := hppH.out; rw [← e, hek] at this; unfold packI at this; omega)
          clear hek
          go_wp2_with fail
          all_goals
            have hq5 := (at_setCell (o := 4) (v := .int .i64 0) (at_setCell (o := 3) (v := .int .i64 0) (at_setCell (o := 2) (v := .int .i64 0) (at_setCell (o := 1) (v := .int .i64 0) (at_setCell (o := 0) (v := .int .u64 0) (hV6.out.res))))))
            have hm5 := ((((((hm6).setCell (p := ⟨w.heap.size, 0, none⟩) (.inr (Nat.le_refl _)) (.int .u64 0)).setCell (p := ⟨w.heap.size, 1, none⟩) (.inr (Nat.le_refl _)) (.int .i64 0)).setCell (p := ⟨w.heap.size, 2, none⟩) (.inr (Nat.le_refl _)) (.int .i64 0)).setCell (p := ⟨w.heap.size, 3, none⟩) (.inr (Nat.le_refl _)) (.int .i64 0)).setCell (p := ⟨w.heap.size, 4, none⟩) (.inr (Nat.le_refl _)) (.int .i64 0))
            refine bodyPost_ret (ret_cell_tmp Try.results21 rfl rfl hq5 Try.underlying39 rfl (by kernel_rfl)) rfl ?_
            exact ⟨rfl, hm5⟩
      · go_wp2_with fail
        all_goals
          have hq5 := (at_setCell (o := 4) (v := .int .i64 0) (at_setCell (o := 3) (v := .int .i64 0) (at_setCell (o := 2) (v := .int .i64 0) (at_setCell (o := 1) (v := .int .i64 0) (at_setCell (o := 0) (v := .int .u64 0) (hV6.out.res))))))
          have hm5 := ((((((hm6).setCell (p := ⟨w.heap.size, 0, none⟩) (.inr (Nat.le_refl _)) (.int .u64 0)).setCell (p := ⟨w.heap.size, 1, none⟩) (.inr (Nat.le_refl _)) (.int .i64 0)).setCell (p := ⟨w.heap.size, 2, none⟩) (.inr (Nat.le_refl _)) (.int .i64 0)).setCell (p := ⟨w.heap.size, 3, none⟩) (.inr (Nat.le_refl _)) (.int .i64 0)).setCell (p := ⟨w.heap.size, 4, none⟩) (.inr (Nat.le_refl _)) (.int .i64 0))
          refine bodyPost_ret (ret_cell_tmp Try.results21 rfl rfl hq5 Try.underlying39 rfl (by kernel_rfl)) rfl ?_
          exact ⟨rfl, hm5⟩
end
end Go.Proofs.Ytcdmapllligjhaa
