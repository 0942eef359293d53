/- Borrows: the definition's ledger: Access, EndObject, EndHolder; SameBorrows. -/
import Derived.Test.YtappkiiihnaegaaBDefW
namespace Go.Proofs.Ytappkiiihnaegaa
open Go Go.RowKit Go.Stg

theorem rheld_c {w : World} {rb : Nat} {L : List Bor} {f : List Nat} (h : RLedAt w rb L f) (hl : L.length ≤ 1000000) (o : Int) : Calls Try.prog 37 #[.pointer (some ⟨rb, 0, none⟩), .int .i64 o] w fun e w' => e = .returned (.int .i64 ((heldH L o).length : Nat)) ∧ Mod [] w w' :=
  let ⟨_, h1, h2, _⟩ := h.parts; rheld_ok h1 h2 hl o
set_option maxHeartbeats 4000000 in
theorem raccess_ok {w : World} {rb : Nat} {L : List Bor} {f : List Nat} (h : RLedAt w rb L f) {N : Int} (hI : LInv N L) (hl : L.length ≤ 1000000) (o k : Int) (owner : Bool) (a : Int) :
    Calls Try.prog 22 #[.pointer (some ⟨rb, 0, none⟩), .int .i64 o, .int .i64 k, .bool owner, .int .i64 a] w fun e w' => e = .returned (.int .i64 (accE L o k owner a)) ∧ Mod [] w w' := by
  have hof := Lib.hid fun w' (hm : Mod [] w w') => rof_c (RLedAt.mod h hm) hl o
  have hho := rholds_c h hl o k
  have hmr := modeO_range hI o
  rw [foundV_eq] at hho
  have hmd : (getB L (o, k)).isSome = true → (gotB L (o, k)).2.1 = 1 ∨ (gotB L (o, k)).2.1 = 2 := fun hh => by
    unfold gotB
    cases hg : getB L (o, k) with
    | none => rw [hg] at hh; cases hh
    | some b => exact hI.mode b (getB_some hg).1
  have hmc := fun b l (h : ofO L o = b :: l) => modeO_cons h
  have hmz := (modeO_zero hI o).2
  have hmz1 := (modeO_zero hI o).1
  obtain ⟨E, hE⟩ : ∃ E, accE L o k owner a = E := ⟨_, rfl⟩
  rw [hE]
  unfold accE at hE
  change Calls _ _ _ _ (fun e w' => e = .returned (.tuple #[bv (gotB L (o, k)), _]) ∧ _) at hho
  generalize gotB L (o, k) = x at *
  generalize (getB L (o, k)).isSome = fl at *
  generalize modeO L o = m at *
  obtain ⟨⟨xo, xh⟩, xm, xc⟩ := x
  have hEH := Lib.hid hE
  have hhoH := Lib.hid hho
  simp only at hmd
  clear h hI hl hE hho
  by_cases ha1 : a < 1
  · obtain rfl : 1 = E := by have := hEH.out; rw [if_pos (.inl ha1)] at this; exact this
    clear hEH hmc hmz hmz1 hmr hmd
    go_enter Try.func22, Try.ntmps22
    go_wp2_with fail
    go_ret
    exact ⟨rfl, Mod.refl _ _⟩
  · by_cases ha4 : 4 < a
    · obtain rfl : 1 = E := by have := hEH.out; rw [if_pos (.inr ha4)] at this; exact this
      clear hEH hmc hmz hmz1 hmr hmd
      go_enter Try.func22, Try.ntmps22
      go_wp2_with fail
      go_ret
      exact ⟨rfl, Mod.refl _ _⟩
    · have ha : a = 1 ∨ a = 2 ∨ a = 3 ∨ a = 4 := by omega
      have hE := hEH.out
      rw [if_neg (by omega)] at hE
      clear ha1 ha4 hEH
      cases owner with
      | true =>
        simp only [if_true] at hE
        clear hmd
        cases hof1 : ofO L o with
        | nil =>
          have hm0 := hmz hof1
          subst hm0
          rw [hof1] at hof
          simp at hE
          subst hE
          clear hmc hmz hmz1 hof1 hmr
          rcases ha with rfl | rfl | rfl | rfl
          all_goals
            go_enter Try.func22, Try.ntmps22
            go_wp2_with fail
            refine hhoH.out.mono ?_
            unfold bv
            rintro e w1 ⟨rfl, hm1⟩
            have hm2 := Lib.hid (hm1.alloc (.cells #[.int .i64 xo, .int .i64 xh, .int .i64 xm, .int .i64 xc] 25))
            clear hm1
            go_wp2_with fail
            refine (hof.out _ hm2.out).mono ?_
            rintro e w2 ⟨u, rfl, hr, hm3⟩
            have hln := fun ty w' => row_len (ty := ty) Try.underlying36 hr w'
            simp only [List.length_nil] at hln
            obtain ⟨ua, ul, uc, rfl⟩ := row_slice hr
            have hm4 := Lib.hid (hm2.out.nil_then hm3)
            clear hr hm3
            go_wp2_with fail
            go_ret
            exact ⟨rfl, hm4.out⟩
        | cons b l =>
          have hmo := hmc b l hof1
          have hmr := hmr.resolve_left fun e => by rw [hmz1 e] at hof1; cases hof1
          rw [hof1] at hof
          obtain ⟨⟨bo, bk⟩, bm, bc⟩ := b
          simp only at hmo
          subst hmo
          clear hmc hmz hmz1 hof1
          rcases ha with rfl | rfl | rfl | rfl <;> rcases hmr with rfl | rfl <;> simp at hE <;> subst hE
          all_goals
            go_enter Try.func22, Try.ntmps22
            go_wp2_with fail
            refine hhoH.out.mono ?_
            unfold bv
            rintro e w1 ⟨rfl, hm1⟩
            have hm2 := Lib.hid (hm1.alloc (.cells #[.int .i64 xo, .int .i64 xh, .int .i64 xm, .int .i64 xc] 25))
            clear hm1
            go_wp2_with fail
            refine (hof.out _ hm2.out).mono ?_
            rintro e w2 ⟨u, rfl, hr, hm3⟩
            obtain ⟨g, cap, rfl, hcell⟩ := row_mode hr
            have hcap : 0 < l.length + 1 := by omega
            have hm4 := Lib.hid (hm2.out.nil_then hm3)
            clear hr hm3
            go_wp2_with fail
            go_ret
            exact ⟨rfl, hm4.out⟩
      | false =>
        simp only [Bool.false_eq_true, if_false] at hE
        clear hof hmr hmc hmz hmz1
        cases fl with
        | false =>
          rw [if_pos (by simp)] at hE
          subst hE
          clear hmd
          rcases ha with rfl | rfl | rfl | rfl
          all_goals
            go_enter Try.func22, Try.ntmps22
            go_wp2_with fail
            refine hhoH.out.mono ?_
            unfold bv
            rintro e w1 ⟨rfl, hm1⟩
            have hm2 := Lib.hid (hm1.alloc (.cells #[.int .i64 xo, .int .i64 xh, .int .i64 xm, .int .i64 xc] 25))
            clear hm1
            go_wp2_with fail
            go_ret
            exact ⟨rfl, hm2.out⟩
        | true =>
          have hmd := hmd rfl
          rcases ha with rfl | rfl | rfl | rfl <;> rcases hmd with rfl | rfl <;> simp at hE <;> subst hE
          all_goals
            go_enter Try.func22, Try.ntmps22
            go_wp2_with fail
            refine hhoH.out.mono ?_
            unfold bv
            rintro e w1 ⟨rfl, hm1⟩
            have hm1H := Lib.hid hm1
            clear hm1
            go_wp2_with fail
            go_ret
            exact ⟨rfl, hm1H.out.alloc _⟩
/-- Two rows of the same borrows. -/
theorem same_ok {w : World} {b1 b2 : Nat} {v1 v2 : Value} {M : List Bor} (h1 : w.ownsRow b1 25 4 v1 M.length (flat bcell M)) (h2 : w.ownsRow b2 25 4 v2 M.length (flat bcell M)) (hl : M.length ≤ 1000000) :
    Calls Try.prog 18 #[v1, v2] w fun e w' => e = .returned (.bool true) ∧ Mod [] w w' := by
  have hln1 := fun ty w' => row_len (ty := ty) Try.underlying36 h1 w'
  have hln2 := fun ty w' => row_len (ty := ty) Try.underlying36 h2 w'
  have h1H := Lib.hid h1
  have h2H := Lib.hid h2
  obtain ⟨xa, xl, xc, rfl⟩ := row_slice h1
  obtain ⟨ya, yl, yc, rfl⟩ := row_slice h2
  clear h1 h2
  go_enter Try.func18, Try.ntmps18
  go_wp2_with fail
  go_loopw [5] (fun i wr => ∃ k : Nat, k ≤ M.length ∧ i = .int .i64 k ∧ Mod [] w wr) (fun i _ => M.length - (intOf i).toNat)
  case atStart => exact ⟨0, by omega, rfl, Mod.refl _ _⟩
  case round =>
    obtain ⟨k, hk, rfl, hm⟩ := hrel
    by_cases hlt : k < M.length
    · obtain ⟨g, cap, hv, _, hg, xo, xh, xm, xc, _, hx, c0, c1, c2, c3⟩ := bor_cells (row_mod h1H.out hm (by simp)) rfl hlt
      obtain ⟨g', cap', hv', _, hg', yo, yh, ym, yc, _, hy, d0, d1, d2, d3⟩ := bor_cells (row_mod h2H.out hm (by simp)) rfl hlt
      rw [hx] at hy
      cases hy
      cases hv
      cases hv'
      have hmH := Lib.hid hm
      have k0 := GW.cell1 (S := []) c0 hg (by simp)
      have k1 := GW.cell1 (S := []) c1 hg (by simp)
      have k2 := GW.cell1 (S := []) c2 hg (by simp)
      have k3 := GW.cell1 (S := []) c3 hg (by simp)
      have e0 := GW.cell1 (S := []) d0 hg' (by simp)
      have e1 := GW.cell1 (S := []) d1 hg' (by simp)
      have e2 := GW.cell1 (S := []) d2 hg' (by simp)
      have e3 := GW.cell1 (S := []) d3 hg' (by simp)
      have z0 : (xo == xo) = true := by simp
      have z1 : (xh == xh) = true := by simp
      have z2 : (xm == xm) = true := by simp
      have z3 : (xc == xc) = true := by simp
      clear hm hx c0 c1 c2 c3 d0 d1 d2 d3
      go_wp2_with fail
      refine wp_region_pure (by kernel_rfl) (by kernel_rfl) ?_
      refine stage_quiet 9 (by kernel_rfl) ?_
      simp only [List.take_succ_cons, List.take_zero, List.drop_succ_cons, List.drop_zero]
      repeat (go_big_quiet_step (fail))
      refine wpQuiet_nil ?_
      refine stage_nil fun W3 hm3 => ?_
      have hm3H := Lib.hid hm3
      clear hm3 k0 k1 k2 k3 e0 e1 e2 e3
      go_wp2_with fail
      go_roundw
      case rel => exact ⟨k + 1, by omega, by go_num, hmH.out.nil_then hm3H.out⟩
      case measure => simp [intOf]; omega
    · obtain rfl : k = M.length := by omega
      go_wp2_with fail
      go_ret
      exact ⟨rfl, hm⟩
/-- The definition's EndObject. -/
theorem rendO_ok {w : World} {rb : Nat} {L : List Bor} {f : List Nat} (h : (rledC rb L).on w f) (hS : Srt L) (hl : L.length ≤ 1000000) (o : Int) :
    Calls Try.prog 28 #[.pointer (some ⟨rb, 0, none⟩), .int .i64 o] w fun e w' => ∃ v, e = .returned v ∧ Scene f w [rowC v (ofO L o).length 25 4 (flat bcell (ofO L o)), rledC rb (cut L fun x => decide (x.1.1 = o))] w' := by
  have hof0 := rof_c h hl o
  unfold ofO at hof0 ⊢
  have hof := Lib.hid hof0
  have hs0 := Lib.hid hS
  have hhH := Lib.hid h
  clear h hS hof0
  go_enter Try.func28, Try.ntmps28
  go_wp2_with fail
  refine hof.out.mono ?_
  rintro e w1 ⟨v, rfl, hr, hm1⟩
  obtain ⟨oa, ol, oc, rfl⟩ := row_slice hr
  have hln := fun ty w' => row_len (ty := ty) Try.underlying36 hr w'
  have hS1 := Lib.hid ((Scene.own hhH.out).add (c := rowC (.slice oa ol oc) (L.filter fun x => decide (x.1.1 = o)).length 25 4 (flat bcell (L.filter fun x => decide (x.1.1 = o)))) hm1 ⟨row_base hr (Nat.zero_le _), rfl⟩ (fun x hx => (hr.lt x (by simpa using hx)).1))
  have hfl : (L.filter fun x => decide (x.1.1 = o)).length ≤ L.length := List.length_filter_le _ _
  have hoo : ∀ x ∈ L.filter (fun x => decide (x.1.1 = o)), x.1.1 = o := fun x hx => by simpa using (List.mem_filter.1 hx).2
  have hooH := Lib.hid hoo
  clear hm1 hr hoo
  go_wp2_with fail
  go_loopw [6] (fun i wr => ∃ k : Nat, k ≤ (L.filter fun x => decide (x.1.1 = o)).length ∧ i = .int .i64 k ∧ Scene f w [rowC (.slice oa ol oc) (L.filter fun x => decide (x.1.1 = o)).length 25 4 (flat bcell (L.filter fun x => decide (x.1.1 = o))), rledC rb (dropK L (((L.filter fun x => decide (x.1.1 = o)).map (·.1)).take k))] wr) (fun i _ => (L.filter fun x => decide (x.1.1 = o)).length - (intOf i).toNat)
  case atStart => exact ⟨0, by omega, rfl, by rw [List.take_zero, dropK_nil]; exact hS1.out⟩
  case round =>
    obtain ⟨k, hk, rfl, hS⟩ := hrel
    have hSH := Lib.hid hS
    by_cases hlt : k < (L.filter fun x => decide (x.1.1 = o)).length
    · obtain ⟨g, cap, hv, _, hg, xo, xh, xm, xc, hs, hx, c0, c1, c2, c3⟩ := bor_cells (hS.row 0 rfl) rfl hlt
      cases hv
      have hst := drop_step hs0.out (p := fun x => decide (x.1.1 = o)) hx
      have hstH := Lib.hid hst
      have hxo := hooH.out _ (List.mem_iff_getElem?.2 ⟨k, hx⟩)
      simp only at hxo
      subst hxo
      have hwo := Lib.hid fun (f' : List Nat) (w' : World) (h : RLedAt w' rb (dropK L (((L.filter fun x => decide (x.1.1 = xo)).map (·.1)).take k)) f') => (let ⟨_, h1, h2, _⟩ := RLedAt.parts h; rwithout_ok h1 h2 (Nat.le_trans (dropK_len _ _) hl) xo xh)
      obtain ⟨fr, hrl, hset⟩ := hS.part 1 rfl
      obtain ⟨v, hb, -, -⟩ := RLedAt.parts hrl
      have hrlH := Lib.hid hrl
      have hsetH := Lib.hid hset
      have hbH := Lib.hid hb
      clear hS hS1 hs hx hst hrl hset hb
      go_wp2_with fail
      refine (hwo.out _ _ hrlH.out).mono ?_
      rintro e w5 ⟨u, rfl, hr, hm5⟩
      have hcb := cells_of (hm5.at hbH.out (by simp))
      have hfb := frozen_of (hm5.at hbH.out (by simp))
      obtain ⟨ua, ul, uc, rfl⟩ := row_slice hr
      obtain ⟨f', -, k1, k2, k3⟩ := rled_set (val := .tuple #[]) hrlH.out hm5 hr
      have hS6 := hsetH.out _ _ _ k1 k2 k3
      rw [hstH.out.2] at hS6
      have hS6H := Lib.hid hS6
      clear hr hm5 k1 k2 k3 hS6 c0 c1 c2 c3
      go_wp2_with fail
      go_roundw
      case rel => exact ⟨k + 1, by omega, by go_num, hS6H.out⟩
      case measure => simp [intOf]; omega
    · obtain rfl : k = (L.filter fun x => decide (x.1.1 = o)).length := by omega
      have hfin := hSH.out
      rw [List.take_of_length_le (by simp), dropK_all L hs0.out.nodup (fun x => decide (x.1.1 = o))] at hfin
      have hfinH := Lib.hid hfin
      clear hS hfin hS1
      go_wp2_with fail
      go_ret
      exact ⟨_, rfl, hfinH.out⟩
/-- The definition's EndHolder. -/
theorem rendH_ok {w : World} {rb : Nat} {L : List Bor} {f : List Nat} (h : (rledC rb L).on w f) (hl : L.length ≤ 1000000) (o : Int) :
    Calls Try.prog 26 #[.pointer (some ⟨rb, 0, none⟩), .int .i64 o] w (Takes (rledC rb (cut L fun x => decide (x.1.2 = o))) (.int .i64 ((heldH L o).length : Nat)) w f) := by
  have hheld := Lib.hid (rheld_c h hl o)
  obtain ⟨i5, hi5, hz0, hz1, hz2⟩ := info_parts info_bor
  obtain ⟨v, hb, hr, -⟩ := RLedAt.parts h
  have hln := fun ty w' => row_len (ty := ty) Try.underlying36 hr w'
  have hbH := Lib.hid hb
  have hrH := Lib.hid hr
  have hhH := Lib.hid h
  clear h hb hr
  unfold cut
  go_enter Try.func26, Try.ntmps26
  go_wp2_with fail
  refine hheld.out.mono ?_
  rintro e w0 ⟨rfl, hm0⟩
  have hm0H := Lib.hid hm0
  clear hm0 hheld
  go_wp2_with fail
  go_loopw [7, 6] (fun i ov wr => ∃ k : Nat, k ≤ L.length ∧ i = .int .i64 k ∧ Mod [] w wr ∧ wr.ownsRow w.heap.size 25 4 ov ((L.take k).filter fun b => !decide (b.1.2 = o)).length (flat bcell ((L.take k).filter fun b => !decide (b.1.2 = o)))) (fun i _ _ => L.length - (intOf i).toNat)
  case atStart => exact ⟨0, by omega, rfl, hm0H.out, World.ownsRow_nil _ _ _ _⟩
  case round =>
    obtain ⟨k, hk, rfl, hm, ho⟩ := hrel
    have hcb := cells_of (hm.at hbH.out (by simp))
    have hoH := Lib.hid ho
    have hmH := Lib.hid hm
    have hrow := row_mod hrH.out hm (by simp)
    clear hm ho
    by_cases hlt : k < L.length
    · obtain ⟨g, cap, rfl, _, hg, xo, xh, xm, xc, hs, _, c0, c1, c2, c3⟩ := bor_cells hrow rfl hlt
      have hsH := Lib.hid hs
      clear hs hrow
      by_cases he : xh = o
      · subst he
        have z : (xh != xh) = false := by simp
        have hN := Lib.hid (filt_no hsH.out (p := fun b => !decide (b.1.2 = xh)) (by simp_all))
        go_wp2_with fail
        go_roundw
        case rel => exact ⟨k + 1, by omega, by go_num, hmH.out, by rw [hN.out]; exact hoH.out⟩
        case measure => simp [intOf]; omega
      · have z : (xh != o) = true := by simpa using he
        have hY := filt_yes hsH.out (p := (fun b => !decide (b.1.2 = o))) (by simp_all)
        have hfl := filt_len L k (fun b => !decide (b.1.2 = o))
        have ho := hoH.out
        generalize (L.take k).filter (fun b => !decide (b.1.2 = o)) = M at hY hfl ho
        have hYH := Lib.hid hY
        have hooH := Lib.hid ho
        have hb1 : M.length + 1 ≤ maxLen := by unfold maxLen; omega
        have hb2 : (M.length + 1) * 32 ≤ 140737488355328 := by omega
        have hnwH := Lib.hid (cellsE wr (bcell ((xo, xh), (xm, xc))) 25 #[.int .i64 xo, .int .i64 xh, .int .i64 xm, .int .i64 xc] rfl)
        clear hfl hoH hY ho
        go_wp2_with (at_builtin; refine wpList_append_row _ rfl _ _ 36 rfl 25 i5 (bv b0) 4 32 Try.underlying36 hi5 hz0 hz1 hz2 rfl (by decide) u6 M.length _ rfl ((row_base hooH.out (Nat.zero_le _)).alloc _) ⟨wr.heap.size, 0, none⟩ 1 1 (bcell ((xo, xh), (xm, xc))) rfl rfl hnwH.out (by simp [bcell, Value.oneCell']) hb1 hb2 ?_; intro ov2 w5 hown hgrow hfr; obtain ⟨g5, c5, rfl, _, _⟩ := row_pos hown (by omega); have hownH := Lib.hid hown; have hgrowH := Lib.hid hgrow; have hfrH := Lib.hid hfr; clear hown hgrow hfr)
        go_roundw
        case rel =>
          refine ⟨k + 1, by omega, by go_num, (hmH.out.alloc _).grown hgrowH.out (fun y hy => .inr (hooH.out.lt y hy).1), ?_⟩
          rw [hYH.out, flat_append, flat_one, List.length_append]
          refine row_all hownH.out fun y hy => ?_
          have hw := hmH.out.size
          rcases hfrH.out y hy with h | h
          · exact (hooH.out.lt y h).1
          · simp at h; omega
        case measure => simp [intOf]; omega
    · obtain rfl : k = L.length := by omega
      clear hrow
      have hfb := frozen_of (hmH.out.at hbH.out (by simp))
      have hfin := hoH.out
      rw [List.take_length] at hfin
      obtain ⟨oa, ol, oc, rfl⟩ := row_slice hfin
      have hT := Lib.hid (rled_set (val := .int .i64 ((heldH L o).length : Nat)) hhH.out hmH.out hfin)
      clear hfin
      go_wp2_with fail
      go_ret
      exact hT.out
end Go.Proofs.Ytappkiiihnaegaa
