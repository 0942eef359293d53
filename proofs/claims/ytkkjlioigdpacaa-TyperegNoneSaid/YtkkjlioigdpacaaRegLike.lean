/- Registries: the laws' comparison. -/
import Derived.Test.YtkkjlioigdpacaaRegAll
import Derived.Test.YtkkjlioigdpacaaStageIn
namespace Go.Proofs.Ytkkjlioigdpacaa
open Go Go.RowKit Go.Stg
attribute [local go_sem] Oper.semAt_some

theorem FieldsAt.slice {w : World} {v : Value} {fs : List Fld} (h : FieldsAt w v fs) : ∃ a m c, v = .slice a m c := by
  rcases h with ⟨h, _⟩ | ⟨_, _, _, h, _⟩ <;> exact ⟨_, _, _, h⟩
theorem FieldsAt.grown {w w' : World} {v : Value} {fs : List Fld} {row : Option Nat} (h : FieldsAt w v fs) (hg : w.grownBy w' row) (hr : ∀ r, row = some r → ∃ o : Obj, w.heap[r]? = some o ∧ o.isCells = false) : FieldsAt w' v fs := by
  rcases h with h | ⟨sb, so, cap, rfl, h2, h3, h4⟩
  · exact .inl h
  · refine .inr ⟨sb, so, cap, rfl, Nat.lt_of_lt_of_le h2 hg.size, h3, fun i hi => ?_⟩
    obtain ⟨a, b⟩ := h4 i hi
    have hne : some sb ≠ row := fun e => by
      obtain ⟨o, ho, hc⟩ := hr sb e.symm
      unfold World.cell? at a
      simp only [ho] at a
      cases o <;> simp [Obj.isCells] at hc <;> simp at a
    have hb : ∀ j, w'.cell? ⟨sb, j, none⟩ = w.cell? ⟨sb, j, none⟩ := fun j => World.cell?_of_block (a := ⟨sb, j, none⟩) (hg.block sb h2 hne)
    exact ⟨(hb _).trans a, (hb _).trans b⟩
/-- A loop's variable, in its box. -/
def Boxed2 (W : World) (r : Nat) (x : Elm) : Prop := W.heap[r]? = some (.cells #[.int .i64 x.2.1.1, x.2.2] 31 (0, 0))
theorem belowK_b' {n B : Nat} (h : n ≤ B) : ∀ (W : World) (l : Nat) (o o' : Obj), B ≤ l → W.heap[l]? = some o → o.isCells = false → o.isWalk = false → RowKit.Below n W (W.putObj l o') := by
  intro W l o o' hl _ _ _
  exact ⟨rfl, rfl, rfl, by simp [World.putObj], fun k hk => World.putObj_heap_other (by omega)⟩
set_option maxRecDepth 100000 in
set_option maxHeartbeats 8000000 in
theorem alike_ok {w : World} {rb rm : Nat} {R : List Ty} {f1 f2 : List Nat} (hR : (regC 58 rb R).on w f1) (hM : (regC 49 rm R).on w f2) (tag : Int) :
    Calls Try.prog 17 #[.pointer (some ⟨rb, 0, none⟩), .pointer (some ⟨rm, 0, none⟩), .int .i64 tag] w fun e w' => e = .returned (.bool true) ∧ Mod [] w w' := by
  have hRk := Lib.hid fun w' (h : Mod [] w w') => (regC 58 rb R).keep hR h (by simp)
  have hMk := Lib.hid fun w' (h : Mod [] w w') => (regC 49 rm R).keep hM h (by simp)
  have hf1 := (regC 58 rb R).lt hR
  have hf1H := Lib.hid hf1
  have h255 : R.length ≤ 255 := by obtain ⟨_, _, _, _, h, _⟩ := hR; exact h
  have hok : ∀ t ∈ R, TyOk t := by obtain ⟨_, _, _, h, _⟩ := hR; exact h
  have hokH := Lib.hid hok
  clear hR hM hf1 hok
  refine (callsIn_wide (n := 5)).1 ?_
  refine callsIn_of_wp_marks Try.func17 rfl trivial ?_ rfl
  simp only [Try.ntmps17, List.size_toArray, List.length_cons, List.length_nil, Nat.reduceAdd, Nat.reduceSub, Array.replicate_succ, Array.replicate_zero, List.push_toArray, List.append_toArray, List.nil_append, List.cons_append]
  have hm0 := ((Mod.refl [] w).alloc (.cells #[.pointer (some ⟨rm, 0, none⟩)] 47)).alloc (.cells #[.bool false] 4)
  have b0 := at_alloc_old (o := .cells #[.bool false] 4) (at_alloc w (.cells #[.pointer (some ⟨rm, 0, none⟩)] 47))
  have b1 := at_alloc (w.alloc (.cells #[.pointer (some ⟨rm, 0, none⟩)] 47)) (.cells #[.bool false] 4)
  rw [World.size_alloc] at b1
  have hm0H := Lib.hid hm0
  have b0H := Lib.hid b0
  have b1H := Lib.hid b1
  clear hm0 b0 b1
  gi_wp2_with fail
  refine ⟨trivial, (callsIn_wide.2 (lookup_ok (hRk.out _ hm0H.out) tag)).mono ?_⟩
  generalize (w.alloc (.cells #[.pointer (some ⟨rm, 0, none⟩)] 47)).alloc (.cells #[.bool false] 4) = W0 at *
  generalize hq : w.heap.size = q at *
  rintro e w1 ⟨v1, rfl, hF1, hm1⟩
  obtain ⟨va, vm, vc, rfl⟩ := hF1.slice
  have c0 := Lib.hid (at_alloc w1 (.cells #[.int .i64 (lookT R tag).1, .slice va vm vc] 31))
  have hF1H := Lib.hid (hF1.mod ((Mod.refl [] w1).alloc (.cells #[.int .i64 (lookT R tag).1, .slice va vm vc] 31)))
  have hm2 := hm1.alloc (.cells #[.int .i64 (lookT R tag).1, .slice va vm vc] 31)
  have b0c := cells_of (hm2.at b0H.out (by simp))
  have hm2H := Lib.hid hm2
  clear hF1 hm1 hm2
  gi_wp2_with fail
  refine ⟨trivial, (callsIn_wide.2 (rlookup_ok (hMk.out _ (hm0H.out.nil_then hm2H.out)) tag)).mono ?_⟩
  generalize w1.alloc (.cells #[.int .i64 (lookT R tag).1, .slice va vm vc] 31) = W1 at *
  generalize hq1 : w1.heap.size = q1 at *
  rintro e w2 ⟨v2, rfl, hF2, hm3⟩
  obtain ⟨ua, um, uc, rfl⟩ := hF2.slice
  have c1 := Lib.hid (at_alloc_old (o := .cells #[.int .i64 (lookT R tag).1, .slice ua um uc] 31) (hm3.at c0.out (by simp)))
  have c2 := Lib.hid (at_alloc w2 (.cells #[.int .i64 (lookT R tag).1, .slice ua um uc] 31))
  have hm4 := hm3.alloc (.cells #[.int .i64 (lookT R tag).1, .slice ua um uc] 31)
  have hF1' := Lib.hid (hF1H.out.mod hm4)
  have hF2' := Lib.hid (hF2.mod ((Mod.refl [] w2).alloc (.cells #[.int .i64 (lookT R tag).1, .slice ua um uc] 31)))
  have hm5 := Lib.hid (hm2H.out.nil_then hm4)
  clear hF2 hm3 hm4 hF1H c0 b0c hm2H
  gi_wp2_with fail
  generalize w2.alloc (.cells #[.int .i64 (lookT R tag).1, .slice ua um uc] 31) = W2 at *
  generalize hq2 : w2.heap.size = q2 at *
  have hmw := Lib.hid (hm0H.out.nil_then hm5.out)
  have d0 := Lib.hid (hm5.out.at b0H.out (by simp))
  have d1 := Lib.hid (hm5.out.at b1H.out (by simp))
  obtain ⟨svM, LM, hLR, _, _, hHM⟩ := hMk.out _ hmw.out
  have hSM := Scene.start hHM
  have hlM : LM.length = R.length := by rw [← hLR, List.length_map]
  have hln := fun ty w => row_len (ty := ty) Try.underlying43 (hSM.row 1 rfl) w
  rw [hlM] at hln
  have mblk := Lib.hid (hSM.block 0 rfl)
  have hlnH := Lib.hid hln
  have k1 := GW.cells (S := []) c1.out (by simp)
  have k2 := GW.cells (S := []) c2.out (by simp)
  have k3 := GW.cells (S := []) d0.out (by simp)
  have k4 := GW.cells (S := []) mblk.out (by simp)
  clear hLR hHM hSM hm5 b0H b1H hlM
  refine wpIn_wide.2 ?_
  refine wp_region_pure (by kernel_rfl) (by kernel_rfl) ?_
  refine stage_quiet 1 (by kernel_rfl) ?_
  simp only [List.take_succ_cons, List.take_zero, List.drop_succ_cons, List.drop_zero]
  repeat (go_big_quiet_step (fail))
  refine wpQuiet_nil ?_
  refine stage_pure 11 _ (.int .i64 R.length) rfl Try.call11 rfl rfl (fun w' h => len_ok (hRk.out _ (hmw.out.nil_then h))) ?_
  simp only [Act.put, List.setIfInBounds_toArray, List.set_cons_succ, List.set_cons_zero]
  refine stage_quiet 9 (by kernel_rfl) ?_
  simp only [List.take_succ_cons, List.take_zero, List.drop_succ_cons, List.drop_zero]
  repeat (go_big_quiet_step (fail))
  refine wpQuiet_nil ?_
  refine stage_pure 15 _ (.bool true) rfl Try.call15 rfl rfl (fun w' h => (rsame_ok _ _ _ _ _ _ w' (hF1'.out.mod h) (hF2'.out.mod h)).mono fun e w'' ⟨he, hm⟩ => ⟨by rw [he]; simp, hm⟩) ?_
  simp only [Act.put, List.setIfInBounds_toArray, List.set_cons_succ, List.set_cons_zero]
  refine stage_quiet 7 (by kernel_rfl) ?_
  simp only [List.take_succ_cons, List.take_zero, List.drop_succ_cons, List.drop_zero]
  repeat (go_big_quiet_step (fail))
  refine wpQuiet_nil ?_
  refine stage_nil fun w9 hm9 => ?_
  clear k1 k2 k3 k4 hln
  gi_wp2_with fail
  refine ⟨trivial, (callsIn_wide.2 (all_made (some ⟨rb, 0, none⟩) _)).mono ?_⟩
  rintro e w10 ⟨rfl, rfl⟩
  gi_wp2_with fail
  have hm10 := hmw.out.nil_then ((hm9.alloc (.cells #[.int .i64 0] 3)).alloc (.cells #[.pointer (some ⟨rb, 0, none⟩)] 22))
  have e0 := (hm9.alloc (.cells #[.int .i64 0] 3) |>.alloc (.cells #[.pointer (some ⟨rb, 0, none⟩)] 22)).at d0.out (by simp)
  have e1 := (hm9.alloc (.cells #[.int .i64 0] 3) |>.alloc (.cells #[.pointer (some ⟨rb, 0, none⟩)] 22)).at d1.out (by simp)
  have ek := at_alloc_old (o := .cells #[.pointer (some ⟨rb, 0, none⟩)] 22) (at_alloc w9 (.cells #[.int .i64 0] 3))
  have ec := at_alloc (w9.alloc (.cells #[.int .i64 0] 3)) (.cells #[.pointer (some ⟨rb, 0, none⟩)] 22)
  rw [World.size_alloc] at ec
  have hRW := hRk.out _ hm10
  have hB10 := hm10.below
  have hsz10 : ((w9.alloc (.cells #[.int .i64 0] 3)).alloc (.cells #[.pointer (some ⟨rb, 0, none⟩)] 22)).heap.size = w9.heap.size + 2 := by simp
  have hsz9 := hm9.size
  have hd1 := lt_of d1.out
  clear hm9 hRk hmw d0 d1 c1 c2 hF1' hF2'
  generalize (w9.alloc (.cells #[.int .i64 0] 3)).alloc (.cells #[.pointer (some ⟨rb, 0, none⟩)] 22) = W3 at *
  generalize hkb : w9.heap.size = kb at *
  rw [hq] at hB10
  have hst := all_says 4 (by omega) (kb + 1) q W3 (by omega) hRW hf1H.out ec
  refine wpIn_rangeFunc_at rfl (by omega) (gf := 29) (lb := #[.pointer (some ⟨kb + 1, 0, none⟩)]) rfl trivial (enters_of Try.func29 (by kernel_rfl) rfl) hst (RowKit.Below.refl _ _) (fun _ => rfl)
    (fun h k => h.trans k) (belowK_b' (by omega))
    (fun (pre : List Elm) W => Boxed W q 47 (.pointer (some ⟨rm, 0, none⟩)) ∧ (Boxed W (q + 1) 4 (.bool false) ∧ (Boxed W kb 3 (.int .i64 pre.length) ∧ RowKit.Below q w W))) (fun _ _ _ => False)
    (OwnFrom.and (Own.from (boxed_own q 47 (fun (_ : List Elm) => .pointer (some ⟨rm, 0, none⟩))) _) (OwnFrom.and (Own.from (boxed_own (q + 1) 4 (fun (_ : List Elm) => .bool false)) _) (OwnFrom.and (Own.from (boxed_own kb 3 (fun (pre : List Elm) => .int .i64 pre.length)) _) (ownFrom_below (by omega) (by omega)))))
    (fun _ => ownFrom_pure _ _) ⟨e0, e1, ek, hB10⟩
    (fun T x r => (((T.setIfInBounds 47 (.int .i64 x.1)).setIfInBounds 48 (.agg #[.int .i64 x.2.1.1, x.2.2])).setIfInBounds 12 (.int .i64 x.1)).setIfInBounds 13 (.pointer (some ⟨r, 0, none⟩)))
    (fun pre x r W => Boxed2 W r x ∧ FieldsAt W x.2.2 x.2.1.2 ∧ (prj x = ((pre.length : Int) + 1, R.getD pre.length (0, [])) ∧ pre.length < R.length))
    ?hax ?assign ?body ?done ?stop
  case hax =>
    rintro pre x r _ A B row ⟨h1, h2, h3⟩ hg hr
    exact ⟨(hg.block r (lt_of h1) (fun e' => by obtain ⟨_, o, ho, hc⟩ := hr r e'.symm; rw [h1] at ho; cases ho; cases hc)).trans h1, h2.grown hg (fun r' e => (hr r' e).2), h3⟩
  case assign =>
    rintro l pre ⟨i, ⟨tl, tf⟩, v⟩ W K ⟨h0, h1, hk, hB⟩ ⟨s1, s2, s3, s4, s5⟩ hK
    obtain ⟨xa, xm, xc, rfl⟩ := s4.slice
    have hKH := Lib.hid hK
    clear hK hst
    unfold enc
    gi_wp2_with fail
    have hb := at_alloc W (.cells #[.int .i64 tl, .slice xa xm xc] 31 (0, 0))
    have hm := (Mod.refl [] W).alloc (.cells #[.int .i64 tl, .slice xa xm xc] 31 (0, 0))
    exact hKH.out W.heap.size _ ((KeepsOthers.alloc W _).from _) ((RowKit.Below.refl q W).alloc (by have := hk.lt; omega) _) ⟨h0.alloc _, h1.alloc _, hk.alloc _, hB.trans ((RowKit.Below.refl q W).alloc (by have := hk.lt; omega) _)⟩ ⟨hb, s4.mod hm, s2, s3⟩
  case body =>
    rintro l pre ⟨i, ⟨tl, tf⟩, v⟩ r W ⟨h0, h1, hk, hB⟩ ⟨p1, p2, p3, p4⟩ hlen
    obtain ⟨xa, xm, xc, rfl⟩ := p2.slice
    have hmW : Mod [] w W := Mod.of_below (by rw [hq]; exact hB)
    obtain ⟨svB, LB, hLB, _, _, hHB⟩ := hMk.out W hmW
    have hSB := Scene.start hHB
    have hlB : LB.length = R.length := by rw [← hLB, List.length_map]
    have hkB : pre.length < LB.length := by omega
    obtain ⟨g, cap, rfl, hg, r0, r1⟩ := ty_cells (hSB.row 1 rfl) rfl hkB
    have hFm := scene_fields 2 hSB rfl _ (List.getElem_mem hkB)
    have hgd : R.getD pre.length (0, []) = LB[pre.length].1 := by
      rw [← hLB, List.getD_eq_getElem?_getD, List.getElem?_map, List.getElem?_eq_getElem hkB]
      rfl
    have hln := fun ty w => row_len (ty := ty) Try.underlying43 (hSB.row 1 rfl) w
    have mcb := cells_of (hSB.block 0 rfl)
    rw [hgd] at p3
    simp only [prj, Prod.mk.injEq] at p3
    obtain ⟨rfl, p3⟩ := p3
    generalize LB[pre.length] = y at *
    obtain ⟨⟨yl, yf⟩, yv⟩ := y
    simp only [Prod.mk.injEq] at p3
    obtain ⟨rfl, rfl⟩ := p3
    obtain ⟨ya, ym, yc, hyv⟩ := hFm.slice
    simp only at hyv r0 r1 hFm p2
    subst hyv
    have hSameH := Lib.hid fun w1 (h1 : Mod [] W w1) => (rsame_ok tl tl _ _ _ _ w1 (p2.mod h1) (hFm.mod h1)).mono fun e w' (h : e = .returned (.bool (decide (tl = tl ∧ tf = tf))) ∧ Mod [] w1 w') => (⟨by rw [h.1]; simp, h.2⟩ : e = .returned (.bool true) ∧ Mod [] w1 w')
    have mbH := Lib.hid (hSB.block 0 rfl)
    have p1 : W.heap[r]? = some (.cells #[.int .i64 tl, .slice xa xm xc] 31 (0, 0)) := p1
    have p1H := Lib.hid p1
    have hlBH := Lib.hid hlB
    clear hlB
    have z1 : decide (LB.length ≤ pre.length) = false := decide_eq_false (by omega)
    have x0 := h0.cell
    have x1 := h1.cell
    have x2 := hk.cell
    have x3 := cells_of p1
    have hkH := Lib.hid hk
    have h0H := Lib.hid h0
    have h1H := Lib.hid h1
    have hBH := Lib.hid hB
    clear hSB hHB hgd hLB hFm p1 p2 hst hk h0 h1 hB hRW e0 e1 ek ec hm10
    simp only [List.setIfInBounds_toArray, List.set_cons_succ, List.set_cons_zero]
    gi_wp2_with fail
    have k0 := GW.cell1 (S := []) x0 h0H.out.lt (by simp)
    have k2 := GW.cell1 (S := []) x2 hkH.out.lt (by simp)
    have k3 := GW.cells (S := []) p1H.out (by simp)
    have k4 := GW.cells (S := []) mbH.out (by simp)
    have k5 := GW.cell1 (S := []) r0 hg (by simp)
    have k6 := GW.cell1 (S := []) r1 hg (by simp)
    refine wpIn_region_stage (fun w' => ∃ x : GW [] W, w' = x.1) (fun w' => Mod [] W w') (by kernel_rfl) (by kernel_rfl) (by kernel_rfl) (fun _ h => InGW.of h) (Mod.refl _ _).drew ?_
    refine stage_quiet 22 (by kernel_rfl) ?_
    simp only [List.take_succ_cons, List.take_zero, List.drop_succ_cons, List.drop_zero]
    repeat (go_big_quiet_step (fail))
    refine wpQuiet_nil ?_
    refine stage_pure 15 _ (.bool true) rfl Try.call15 rfl rfl (fun w' h => (hSameH.out w' h).mono fun e w'' ⟨he, hm⟩ => ⟨he, hm⟩) ?_
    simp only [Act.put, List.setIfInBounds_toArray, List.set_cons_succ, List.set_cons_zero]
    refine stage_quiet 2 (by kernel_rfl) ?_
    simp only [List.take_succ_cons, List.take_zero, List.drop_succ_cons, List.drop_zero]
    repeat (go_big_quiet_step (fail))
    refine wpQuiet_nil ?_
    refine stage_nil fun w6 hm6 => ?_
    have hk6 : Boxed w6 kb 3 (.int .i64 pre.length) := hm6.at hkH.out (by simp)
    have h06 : Boxed w6 q 47 (.pointer (some ⟨rm, 0, none⟩)) := hm6.at h0H.out (by simp)
    have h16 : Boxed w6 (q + 1) 4 (.bool false) := hm6.at h1H.out (by simp)
    have y0 := hk6.cell
    have y1 := hk6.frozen
    have hk6H := Lib.hid hk6
    have h06H := Lib.hid h06
    have h16H := Lib.hid h16
    have hqW := h16.lt
    clear k0 k2 k3 k4 k5 k6 x0 x1 x2 x3 hk6 h06 h16
    gi_wp2_with fail
    have hko : KeepsOthers W w6 := ⟨hm6.size, fun k o hk _ => hm6.at hk (by simp)⟩
    refine ⟨(hko.trans (KeepsOthers.setCell w6 ⟨kb, 0, none⟩ (.int .i64 (pre.length + 1)))).from _, ?_, h06H.out.other (by omega) _, h16H.out.other (by omega) _, ?_, ?_⟩
    · exact (hm6.below.mono (by have := h1H.out.lt; omega)).trans ((RowKit.Below.refl q w6).setCell (p := ⟨kb, 0, none⟩) (by show q ≤ kb; omega) _)
    · have := hk6H.out.set (.int .i64 (pre.length + 1))
      rw [List.length_append]
      exact this
    · exact hBH.out.trans ((hm6.below.mono (by have := h1H.out.lt; omega)).trans ((RowKit.Below.refl q w6).setCell (p := ⟨kb, 0, none⟩) (by show q ≤ kb; omega) _))
  case done =>
    rintro D ys W hD hys ⟨h0, h1, hk, hB⟩ hK
    have hyl : ys.length = R.length := by
      have := congrArg List.length hys
      rwa [List.length_map, numT_length] at this
    have hmW : Mod [] w W := Mod.of_below (by rw [hq]; exact hB)
    obtain ⟨svB, LB, hLB, _, _, hHB⟩ := hMk.out W hmW
    have hSB := Scene.start hHB
    have hlB : LB.length = R.length := by rw [← hLB, List.length_map]
    have hln := fun ty w => row_len (ty := ty) Try.underlying43 (hSB.row 1 rfl) w
    rw [hlB] at hln
    rw [hyl] at hk
    have hmb := Lib.hid (hSB.block 0 rfl)
    have h0H := Lib.hid h0
    have h1H := Lib.hid h1
    have hkH := Lib.hid hk
    have hKH := Lib.hid hK
    have hBH := Lib.hid hB
    have hqW := h1.lt
    have hW3l := lt_of e1
    clear hHB hSB hlB hLB hys hyl hst h0 h1 hk hB hK e0 e1 ek ec hm10 hRW
    gi_wp2_with fail
    have k0 := GW.cell1 (S := []) h0H.out.cell h0H.out.lt (by simp)
    have k2 := GW.cell1 (S := []) hkH.out.cell hkH.out.lt (by simp)
    have k4 := GW.cells (S := []) hmb.out (by simp)
    have z1 : ((R.length : Int) == R.length) = true := by simp
    refine wpIn_wide.2 ?_
    refine wp_region_stage (fun w' => ∃ x : GW [] W, w' = x.1) (fun w' => Mod [] W w') (by kernel_rfl) (by kernel_rfl) (fun _ h => InGW.of h) (Mod.refl _ _).drew ?_
    refine stage_quiet 7 (by kernel_rfl) ?_
    simp only [List.take_succ_cons, List.take_zero, List.drop_succ_cons, List.drop_zero]
    repeat (go_big_quiet_step (fail))
    refine wpQuiet_nil ?_
    refine stage_store (p := ⟨q + 1, 0, none⟩) (u := .bool true) (fun w' => w'.setCell ⟨q + 1, 0, none⟩ (.bool true)) rfl rfl (by kernel_rfl) rfl rfl rfl (fun w' hw => ?_) (fun w' hw => ?_)
    · have h1' : Boxed w' (q + 1) 4 (.bool false) := hw.at h1H.out (by simp)
      have c1 := h1'.cell
      have f1 := h1'.frozen
      clear k0 k2 k4
      go_simp
    · clear k0 k2 k4
      have h1' : Boxed w' (q + 1) 4 (.bool false) := hw.at h1H.out (by simp)
      have h2' := h1'.set (.bool true)
      have hK2 := at_setCell_other (a := ⟨q + 1, 0, none⟩) (v := .bool true) (hw.at hKH.out (by simp)) (by show D ≠ q + 1; have := h1H.out.lt; omega)
      have hB2 := hBH.out.trans ((hw.below.mono (by omega)).trans ((RowKit.Below.refl q w').setCell (p := ⟨q + 1, 0, none⟩) (by show q ≤ q + 1; omega) (.bool true)))
      gi_wp2_with fail
      refine ⟨by simp, .inl ⟨_, _, rfl, run_takeDeferred hK2, ?_⟩⟩
      have hqD : q + 1 ≠ D := by have := hW3l; omega
      have hv4 := (h2'.kept (grownBy_putObj' _ D (.deferred none)) (by intro e; have := Option.some.inj e; omega)).cell
      have hB4 := hB2.trans (belowK_b' (n := q) (B := q) (Nat.le_refl _) (w'.setCell ⟨q + 1, 0, none⟩ (.bool true)) D _ (.deferred none) (by omega) hK2 rfl rfl)
      clear h1' h2' hK2 hB2
      generalize (w'.setCell ⟨q + 1, 0, none⟩ (.bool true)).putObj D (.deferred none) = W4 at *
      refine ⟨.bool true, ?_, rfl, Mod.of_below (by rw [hq]; exact hB4)⟩
      simp [results, Try.results17, asAddr, go_sem, hv4]
  case stop =>
    rintro D c pre W _ hp h _
    exact h.elim
end Go.Proofs.Ytkkjlioigdpacaa
