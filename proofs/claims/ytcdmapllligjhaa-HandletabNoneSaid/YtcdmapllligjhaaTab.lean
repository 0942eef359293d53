/- The handle table: its state, and what resolves. -/
import Derived.Test.YtcdmapllligjhaaGenPair
import Derived.Test.YtcdmapllligjhaaHand
import Derived.Test.YtcdmapllligjhaaFlat
namespace Go.Proofs.Ytcdmapllligjhaa
open Go Go.RowKit Go.Stg

theorem hSlot_pack {s g t : Int} (hs : 0 ≤ s ∧ s ≤ 16777215) : hSlot (packI s g t) = s := by unfold hSlot packI; omega
theorem hGen_pack {s g t : Int} (hs : 0 ≤ s ∧ s ≤ 16777215) (hg : 1 ≤ g ∧ g ≤ 4294967295) : hGen (packI s g t) = g := by unfold hGen packI; omega
theorem hTag_pack {s g t : Int} (hs : 0 ≤ s ∧ s ≤ 16777215) (hg : 1 ≤ g ∧ g ≤ 4294967295) : hTag (packI s g t) = t := by unfold hTag packI; omega
theorem pack_parts (h : Int) : packI (hSlot h) (hGen h) (hTag h) = h := by unfold packI hSlot hGen hTag; omega
structure Ent where
  h : Int
  owner : Int
  tag : Int
  off : Int
  len : Int
def ent (e : Ent) : List Value := [.int .u64 e.h, .int .i64 e.owner, .int .i64 e.tag, .int .i64 e.off, .int .i64 e.len]
theorem ent_length (e : Ent) : (ent e).length = 5 := rfl
def entV (e : Ent) : Value := .agg #[.int .u64 e.h, .int .i64 e.owner, .int .i64 e.tag, .int .i64 e.off, .int .i64 e.len]
def ent0 : Ent := ⟨0, 0, 0, 0, 0⟩
def entN (E : List Ent) (j : Nat) : Ent := E.getD j ent0
theorem entN_at {E : List Ent} {j : Nat} (h : j < E.length) : entN E j = E[j] := by simp [entN, List.getD_eq_getElem?_getD, List.getElem?_eq_getElem h]
structure TS where
  g : GS
  E : List Ent
structure TInv (n : Nat) (first : Int) (x : TS) : Prop where
  g : GInv n first x.g
  len : x.E.length = n
  ok : ∀ j, j < n → (slotN x.g.S j).2 = true → (1 ≤ (entN x.E j).tag ∧ (entN x.E j).tag ≤ 255) ∧ (entN x.E j).h = packI j (slotN x.g.S j).1 (entN x.E j).tag
/-- The entries of the live slots are these. -/
def Agree (x : TS) (E : List Ent) : Prop := E.length = x.E.length ∧ ∀ j, (slotN x.g.S j).2 = true → entN E j = entN x.E j
def tabP (tb : Nat) (ev : Value) (b pb : Nat) (sl : Value) (first : Int) (x : TS) (E : List Ent) : List Comp :=
  [blockC tb (.cells #[.pointer (some ⟨b, 0, none⟩), ev] 63 (0, 0)), rowC ev E.length 39 5 (flat ent E), genC b pb sl first x.g]
def rtabP (tb : Nat) (ev : Value) (b : Nat) (gv lv : Value) (first : Int) (x : TS) (E : List Ent) : List Comp :=
  [blockC tb (.cells #[.pointer (some ⟨b, 0, none⟩), ev] 84 (0, 0)), rowC ev E.length 39 5 (flat ent E), rgenC b gv lv first x.g]
/-- What Resolve returns. -/
def resE (x : TS) (h : Int) : Int :=
  if x.g.S.length ≤ hSlot h then 10
  else if liveN x.g.S (hSlot h) = false ∨ (slotN x.g.S (hSlot h).toNat).1 ≠ hGen h then 11
  else if (entN x.E (hSlot h).toNat).tag ≠ hTag h then 12 else 0
def resN (x : TS) (h : Int) : Ent := if resE x h = 0 then entN x.E (hSlot h).toNat else ent0
def resV (x : TS) (h : Int) : Value := .tuple #[entV (resN x h), .int .i64 (resE x h)]
theorem tlive_ok {w : World} {tb b : Nat} {ev : Value} (h : w.heap[tb]? = some (.cells #[.pointer (some ⟨b, 0, none⟩), ev] 63 (0, 0))) : Calls Try.prog 30 #[.pointer (some ⟨tb, 0, none⟩)] w fun e w' => e = .returned (.pointer (some ⟨b, 0, none⟩)) ∧ Mod [] w w' := by
  have hcb := cells_of h
  clear h
  go_enter Try.func30, Try.ntmps30
  go_wp2_with fail
  go_ret
  exact ⟨rfl, Mod.refl _ _⟩
/-- What Resolve looks at: the table, its entries, its slots, and the result's cells. -/
structure TView (w : World) (tb b pb q : Nat) (sl psv ev : Value) (first : Int) (x : TS) (E : List Ent) : Prop where
  blk : w.heap[tb]? = some (.cells #[.pointer (some ⟨b, 0, none⟩), ev] 63 (0, 0))
  row : w.ownsRow 0 39 5 ev E.length (flat ent E)
  gen : GenAt w b first x.g.S x.g.F x.g.ret sl psv pb
  res : w.heap[q]? = some (.cells #[.int .u64 0, .int .i64 0, .int .i64 0, .int .i64 0, .int .i64 0] 39 (0, 0))
theorem TView.mod {w w' : World} {tb b pb q : Nat} {sl psv ev : Value} {first : Int} {x : TS} {E : List Ent} (h : TView w tb b pb q sl psv ev first x E) (hm : Mod [] w w') : TView w' tb b pb q sl psv ev first x E :=
  ⟨hm.at h.blk (by simp), row_mod h.row hm (by simp), h.gen.mod hm (by simp), hm.at h.res (by simp)⟩
theorem liveN_nat (S : List Slot) (k : Nat) : liveN S (k : Int) = (slotN S k).2 := by simp [liveN]
section
variable {w : World} {n : Nat} {first : Int} {x : TS} {E : List Ent} {ev : Value} (hI : TInv n first x) (hA : Agree x E) (h : Int) (h0 : 0 ≤ h) (h1 : h ≤ 18446744073709551615) (hn : n ≤ 4096)
include hI hA h0 h1 hn
set_option maxHeartbeats 1000000 in
theorem resolve_ok {F : List Nat} {W : World} {tb b pb : Nat} {sl : Value} (hS : Scene F W (tabP tb ev b pb sl first x E) w) :
    Calls Try.prog 12 #[.pointer (some ⟨tb, 0, none⟩), .int .u64 h] w fun e w' => e = .returned (resV x h) ∧ Mod [] w w' := by
  obtain ⟨psv, hG⟩ := sc_gen 2 hS rfl
  have hlen := hI.g.len
  have hl2 := hI.len
  have hl3 := hA.1
  have hA2 := hA.2
  have hm1 := (Mod.refl [] w).alloc (.cells #[.int .u64 0, .int .i64 0, .int .i64 0, .int .i64 0, .int .i64 0] 39 (0, 0))
  have hV : TView (w.alloc (.cells #[.int .u64 0, .int .i64 0, .int .i64 0, .int .i64 0, .int .i64 0] 39 (0, 0))) tb b pb w.heap.size sl psv ev first x E :=
    ⟨at_alloc_old (hS.block 0 rfl), row_mod (hS.row 1 rfl) hm1 (by simp), hG.mod hm1 (by simp), at_alloc _ _⟩
  have hs0 : 0 ≤ hSlot h ∧ hSlot h ≤ 16777215 := by unfold hSlot; omega
  have hH1 := Lib.hid hm1
  have hVH := Lib.hid hV
  have hSl := Lib.hid fun w => slot_ok h h0 h1 w
  have hGe := Lib.hid fun w => gen_ok h h0 h1 w
  have hTa := Lib.hid fun w => tag_ok h h0 h1 w
  have hE0 : resE x h = resE x h := rfl
  unfold resV resN
  unfold resE at hE0 ⊢
  generalize hSlot h = s at *
  generalize hGen h = g at *
  generalize hTag h = t at *
  obtain ⟨j, rfl⟩ := Int.eq_ofNat_of_zero_le hs0.1
  simp only [Int.toNat_natCast, liveN_nat, hlen]
  have hAj := hA2 j
  clear hA2
  obtain ⟨eh, eo, et, ef, el, hen⟩ : ∃ eh eo et ef el, entN x.E j = ⟨eh, eo, et, ef, el⟩ := ⟨_, _, _, _, _, rfl⟩
  rw [hen] at hAj
  simp only [hen]
  have hAjH := Lib.hid hAj
  clear hAj hen
  clear hE0 hG hS hV hI hA hm1
  go_enter Try.func12, Try.ntmps12
  go_wp2_with fail
  refine (hSl.out _).mono ?_
  rintro e w2 ⟨rfl, hm2⟩
  have hV2 := Lib.hid (hVH.out.mod hm2)
  have hm2 := hH1.out.nil_then hm2
  clear hVH hH1
  go_wp2_with fail
  refine (tlive_ok hV2.out.blk).mono ?_
  rintro e w3 ⟨rfl, hm3⟩
  have hV3 := Lib.hid (hV2.out.mod hm3)
  have hm3 := hm2.nil_then hm3
  clear hm2 hV2
  go_wp2_with fail
  refine (size_ok hV3.out.gen).mono ?_
  rw [hlen]
  rintro e w4 ⟨rfl, hm4⟩
  have hV4 := Lib.hid (hV3.out.mod hm4)
  have hm4 := hm3.nil_then hm4
  clear hm3 hV3
  have hcq := cells_of hV4.out.res
  have hfq := frozen_of hV4.out.res
  have hcb := cells_of hV4.out.blk
  by_cases c1 : (n : Int) ≤ j
  · go_wp2_with fail
    have hq5 := (at_setCell (o := 4) (v := .int .i64 0) (at_setCell (o := 3) (v := .int .i64 0) (at_setCell (o := 2) (v := .int .i64 0) (at_setCell (o := 1) (v := .int .i64 0) (at_setCell (o := 0) (v := .int .u64 0) (hV4.out.res))))))
    have hm5 := ((((((hm4).setCell (p := ⟨w.heap.size, 0, none⟩) (.inr (Nat.le_refl _)) (.int .u64 0)).setCell (p := ⟨w.heap.size, 1, none⟩) (.inr (Nat.le_refl _)) (.int .i64 0)).setCell (p := ⟨w.heap.size, 2, none⟩) (.inr (Nat.le_refl _)) (.int .i64 0)).setCell (p := ⟨w.heap.size, 3, none⟩) (.inr (Nat.le_refl _)) (.int .i64 0)).setCell (p := ⟨w.heap.size, 4, none⟩) (.inr (Nat.le_refl _)) (.int .i64 0))
    refine bodyPost_ret (ret_cell_tmp Try.results12 rfl rfl hq5 Try.underlying39 rfl (by kernel_rfl)) rfl ?_
    exact ⟨rfl, hm5⟩
  · have hjn : j < E.length := by omega
    obtain ⟨gr, cap, rfl, _, _⟩ := row_pos hV4.out.row (by omega)
    go_wp2_with fail
    have hlv := live_post hV4.out.gen j
    rw [liveN_nat, Int.toNat_natCast] at hlv
    have hAj := hAjH.out
    rw [entN_at hjn] at hAj
    clear hAjH
    generalize hsl : slotN x.g.S j = sl0 at *
    rcases sl0 with ⟨ge, le⟩
    simp only at hlv hAj
    refine hlv.mono ?_
    rintro e w5 ⟨rfl, hm5⟩
    have hV5 := Lib.hid (hV4.out.mod hm5)
    have hm5 := hm4.nil_then hm5
    clear hlv hm4 hV4 hcq hfq hcb
    cases le with
    | false =>
      have hcq := cells_of hV5.out.res
      have hfq := frozen_of hV5.out.res
      go_wp2_with fail
      all_goals
        have hq5 := (at_setCell (o := 4) (v := .int .i64 0) (at_setCell (o := 3) (v := .int .i64 0) (at_setCell (o := 2) (v := .int .i64 0) (at_setCell (o := 1) (v := .int .i64 0) (at_setCell (o := 0) (v := .int .u64 0) (hV5.out.res))))))
        have hm5 := ((((((hm5).setCell (p := ⟨w.heap.size, 0, none⟩) (.inr (Nat.le_refl _)) (.int .u64 0)).setCell (p := ⟨w.heap.size, 1, none⟩) (.inr (Nat.le_refl _)) (.int .i64 0)).setCell (p := ⟨w.heap.size, 2, none⟩) (.inr (Nat.le_refl _)) (.int .i64 0)).setCell (p := ⟨w.heap.size, 3, none⟩) (.inr (Nat.le_refl _)) (.int .i64 0)).setCell (p := ⟨w.heap.size, 4, none⟩) (.inr (Nat.le_refl _)) (.int .i64 0))
        refine bodyPost_ret (ret_cell_tmp Try.results12 rfl rfl hq5 Try.underlying39 rfl (by kernel_rfl)) rfl ?_
        exact ⟨rfl, hm5⟩
    | true =>
      have hcq := cells_of hV5.out.res
      have hfq := frozen_of hV5.out.res
      go_wp2_with fail
      refine (hGe.out _).mono ?_
      rintro e w6 ⟨rfl, hm6⟩
      have hV6 := Lib.hid (hV5.out.mod hm6)
      have hm6 := hm5.nil_then hm6
      clear hm5 hV5 hcq hfq
      have hcq := cells_of hV6.out.res
      have hfq := frozen_of hV6.out.res
      by_cases c2 : ge = g
      · subst c2
        have hAj := hAj (by simp)
        have hrow := hV6.out.row
        have r0 := row_cell ent_length hrow hjn rfl (k := 0) (by omega)
        have r1 := row_cell ent_length hrow hjn rfl (k := 1) (by omega)
        have r2 := row_cell ent_length hrow hjn rfl (k := 2) (by omega)
        have r3 := row_cell ent_length hrow hjn rfl (k := 3) (by omega)
        have r4 := row_cell ent_length hrow hjn rfl (k := 4) (by omega)
        rw [hAj] at r0 r1 r2 r3 r4
        simp only [ent, List.getElem?_cons_zero, List.getElem?_cons_succ, Nat.add_zero] at r0 r1 r2 r3 r4
        have hgr := (row_lt hrow gr rfl).2
        clear hrow
        go_wp2_with fail
        have k1 := GW.cells (S := []) hV6.out.blk (by simp)
        have k2 := GW.cell1 (S := []) r2 hgr (by simp)
        clear r0 r1 r2 r3 r4 hcq hfq
        refine wp_region_pure (by kernel_rfl) (by kernel_rfl) ?_
        refine stage_quiet 9 (by kernel_rfl) ?_
        simp only [List.take_succ_cons, List.take_zero, List.drop_succ_cons, List.drop_zero]
        repeat (go_big_quiet_step (fail))
        refine wpQuiet_nil ?_
        refine stage_pure 38 _ (.int .i64 t) rfl Try.call38 rfl rfl (fun w' _ => hTa.out w') ?_
        simp only [Act.put, List.setIfInBounds_toArray, List.set_cons_succ, List.set_cons_zero]
        refine stage_quiet 1 (by kernel_rfl) ?_
        simp only [List.take_succ_cons, List.take_zero, List.drop_succ_cons, List.drop_zero]
        repeat (go_big_quiet_step (fail))
        refine wpQuiet_nil ?_
        refine stage_nil fun w7 hm7 => ?_
        clear k1 k2
        have hV7 := Lib.hid (hV6.out.mod hm7)
        have hm7 := hm6.nil_then hm7
        clear hV6 hm6
        have hcq := cells_of hV7.out.res
        have hfq := frozen_of hV7.out.res
        have hcb := cells_of hV7.out.blk
        by_cases c3 : et = t
        · subst c3
          have hrow := hV7.out.row
          have r0 := row_cell ent_length hrow hjn rfl (k := 0) (by omega)
          have r1 := row_cell ent_length hrow hjn rfl (k := 1) (by omega)
          have r2 := row_cell ent_length hrow hjn rfl (k := 2) (by omega)
          have r3 := row_cell ent_length hrow hjn rfl (k := 3) (by omega)
          have r4 := row_cell ent_length hrow hjn rfl (k := 4) (by omega)
          rw [hAj] at r0 r1 r2 r3 r4
          simp only [ent, List.getElem?_cons_zero, List.getElem?_cons_succ, Nat.add_zero] at r0 r1 r2 r3 r4
          clear hrow
          go_wp2_with fail
          all_goals
            have hq5 := (at_setCell (o := 4) (v := .int .i64 el) (at_setCell (o := 3) (v := .int .i64 ef) (at_setCell (o := 2) (v := .int .i64 et) (at_setCell (o := 1) (v := .int .i64 eo) (at_setCell (o := 0) (v := .int .u64 eh) (hV7.out.res))))))
            have hm5 := ((((((hm7).setCell (p := ⟨w.heap.size, 0, none⟩) (.inr (Nat.le_refl _)) (.int .u64 eh)).setCell (p := ⟨w.heap.size, 1, none⟩) (.inr (Nat.le_refl _)) (.int .i64 eo)).setCell (p := ⟨w.heap.size, 2, none⟩) (.inr (Nat.le_refl _)) (.int .i64 et)).setCell (p := ⟨w.heap.size, 3, none⟩) (.inr (Nat.le_refl _)) (.int .i64 ef)).setCell (p := ⟨w.heap.size, 4, none⟩) (.inr (Nat.le_refl _)) (.int .i64 el))
            refine bodyPost_ret (ret_cell_tmp Try.results12 rfl rfl hq5 Try.underlying39 rfl (by kernel_rfl)) rfl ?_
            exact ⟨rfl, hm5⟩
        · go_wp2_with fail
          all_goals
            have hq5 := (at_setCell (o := 4) (v := .int .i64 0) (at_setCell (o := 3) (v := .int .i64 0) (at_setCell (o := 2) (v := .int .i64 0) (at_setCell (o := 1) (v := .int .i64 0) (at_setCell (o := 0) (v := .int .u64 0) (hV7.out.res))))))
            have hm5 := ((((((hm7).setCell (p := ⟨w.heap.size, 0, none⟩) (.inr (Nat.le_refl _)) (.int .u64 0)).setCell (p := ⟨w.heap.size, 1, none⟩) (.inr (Nat.le_refl _)) (.int .i64 0)).setCell (p := ⟨w.heap.size, 2, none⟩) (.inr (Nat.le_refl _)) (.int .i64 0)).setCell (p := ⟨w.heap.size, 3, none⟩) (.inr (Nat.le_refl _)) (.int .i64 0)).setCell (p := ⟨w.heap.size, 4, none⟩) (.inr (Nat.le_refl _)) (.int .i64 0))
            refine bodyPost_ret (ret_cell_tmp Try.results12 rfl rfl hq5 Try.underlying39 rfl (by kernel_rfl)) rfl ?_
            exact ⟨rfl, hm5⟩
      · go_wp2_with fail
        all_goals
          have hq5 := (at_setCell (o := 4) (v := .int .i64 0) (at_setCell (o := 3) (v := .int .i64 0) (at_setCell (o := 2) (v := .int .i64 0) (at_setCell (o := 1) (v := .int .i64 0) (at_setCell (o := 0) (v := .int .u64 0) (hV6.out.res))))))
          have hm5 := ((((((hm6).setCell (p := ⟨w.heap.size, 0, none⟩) (.inr (Nat.le_refl _)) (.int .u64 0)).setCell (p := ⟨w.heap.size, 1, none⟩) (.inr (Nat.le_refl _)) (.int .i64 0)).setCell (p := ⟨w.heap.size, 2, none⟩) (.inr (Nat.le_refl _)) (.int .i64 0)).setCell (p := ⟨w.heap.size, 3, none⟩) (.inr (Nat.le_refl _)) (.int .i64 0)).setCell (p := ⟨w.heap.size, 4, none⟩) (.inr (Nat.le_refl _)) (.int .i64 0))
          refine bodyPost_ret (ret_cell_tmp Try.results12 rfl rfl hq5 Try.underlying39 rfl (by kernel_rfl)) rfl ?_
          exact ⟨rfl, hm5⟩
end
end Go.Proofs.Ytcdmapllligjhaa
