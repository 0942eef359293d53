/- TyperegStable: the walk of the law. -/
import Derived.Test.YtkkjlioigdpacaaRegP
import Derived.Test.YtkkjlioigdpacaaTapeC
namespace Go.Proofs.Ytkkjlioigdpacaa
open Go Go.RowKit Go.Stg

theorem info_int : (Try.prog.info? 3).map (fun i => (i.zero, i.size, i.bytes)) = some (some (.int .i64 0), 1, 8) := by kernel_rfl
theorem scene_weaken {F : List Nat} {W w : World} {cs : List Comp} (i : Nat) {c c' : Comp} (h : Scene F W cs w) (hi : cs[i]? = some c) (hc : ∀ f, c.on w f → c'.on w f) : Scene F W (cs.set i c') w := by
  obtain ⟨f, h1, hk⟩ := h.part i hi
  exact hk w f c' (hc f h1) (Mod.refl _ _) fun x hx => .inl hx
theorem scene_join {F : List Nat} {W w : World} {A L : List (Ty × Value)} {c : Comp} {cs : List Comp} (h : Scene F W (c :: fieldsC A :: fieldsC L :: cs) w) : Scene F W (c :: fieldsC (L ++ A) :: cs) w := by
  obtain ⟨hm, fp, ⟨f0, _, a0, ⟨f1, _, a1, ⟨f2, g2, a2, hg, d2, rfl⟩, d1, rfl⟩, d0, rfl⟩, hf⟩ := h
  refine ⟨hm, f0 ++ ((f2 ++ f1) ++ g2), ⟨f0, _, a0, ⟨f2 ++ f1, g2, ⟨fun p hp => ?_, ?_⟩, hg, fun y hy hy2 => ?_, rfl⟩, fun y hy hy2 => ?_, rfl⟩, fun y hy => hf y ?_⟩
  · rcases List.mem_append.1 hp with hp | hp
    · exact a2.1 p hp
    · exact a1.1 p hp
  · rw [a2.2, a1.2]; simp [fblocks]
  · rcases List.mem_append.1 hy with h | h
    · exact d2 y h hy2
    · exact d1 y h (by simp [hy2])
  · simp only [List.mem_append] at hy2
    rcases hy2 with (h | h) | h
    · exact d0 y hy (by simp [h])
    · exact d0 y hy (by simp [h])
    · exact d0 y hy (by simp [h])
  · simp only [List.mem_append] at hy ⊢
    rcases hy with h | (h | h) | h
    · exact .inl h
    · exact .inr (.inr (.inl h))
    · exact .inr (.inl h)
    · exact .inr (.inr (.inr h))
/-- The tags of types, all of them registered. -/
def tagsOf (R : List Ty) (L : List (Ty × Value)) : List Value := L.map fun p => .int .i64 (R.idxOf p.1 + 1)
theorem tagsOf_length (R : List Ty) (L : List (Ty × Value)) : (tagsOf R L).length = L.length := by simp [tagsOf]
theorem tagsOf_grow {R : List Ty} {t : Ty} {L : List (Ty × Value)} (h : ∀ p ∈ L, p.1 ∈ R) : tagsOf (regN R t) L = tagsOf R L := by
  unfold regN
  split
  · unfold tagsOf
    refine List.map_congr_left fun p hp => ?_
    rw [List.idxOf_append, if_pos (h p hp)]
  · rfl
theorem regN_mem {R : List Ty} {t : Ty} {x : Ty} (h : x ∈ R) : x ∈ regN R t := by
  unfold regN
  split
  · exact List.mem_append_left _ h
  · exact h
theorem regN_here {R : List Ty} {t : Ty} (he : errT t.1 t.2 = 0) (hl : R.length < 255) : t ∈ regN R t ∧ regV R t = .tuple #[.int .i64 ((regN R t).idxOf t + 1), .int .i64 0] := by
  by_cases hm : t ∈ R
  · obtain ⟨k1, k2⟩ := reg_known he hm
    rw [k1, k2]
    exact ⟨hm, rfl⟩
  · obtain ⟨k1, k2⟩ := reg_new he hm hl
    rw [k1, k2]
    refine ⟨by simp, ?_⟩
    rw [List.idxOf_append, if_neg hm]
    simp
theorem regN_length (R : List Ty) (t : Ty) : (regN R t).length ≤ R.length + 1 := by
  unfold regN
  split <;> simp
theorem look_tag {R : List Ty} {t : Ty} (h : t ∈ R) : lookT R (R.idxOf t + 1) = t ∧ lookE R (R.idxOf t + 1) = 0 := by
  have hi := List.idxOf_lt_length_of_mem h
  have h2 : (1 : Int) ≤ (R.idxOf t : Int) + 1 ∧ (R.idxOf t : Int) + 1 ≤ R.length := by omega
  unfold lookT lookE
  rw [if_pos h2, if_pos h2]
  have e : ((R.idxOf t : Int) + 1 - 1).toNat = R.idxOf t := by omega
  rw [e, List.getD_eq_getElem?_getD, List.getElem?_eq_getElem hi]
  exact ⟨by simp, rfl⟩
theorem tag_eq {R : List Ty} {s t : Ty} (hs : s ∈ R) (ht : t ∈ R) : ((R.idxOf s : Int) + 1 == (R.idxOf t : Int) + 1) = decide (s.1 = t.1 ∧ s.2 = t.2) := by
  by_cases h : s = t
  · subst h; simp
  · have hd : ¬ (s.1 = t.1 ∧ s.2 = t.2) := fun ⟨h1, h2⟩ => h (Prod.ext h1 h2)
    rw [decide_eq_false hd, beq_eq_false_iff_ne]
    intro e
    have e1 : R.idxOf s = R.idxOf t := by omega
    have hi := List.idxOf_lt_length_of_mem hs
    have hj := List.idxOf_lt_length_of_mem ht
    apply h
    have a1 : R[R.idxOf s] = s := List.getElem_idxOf hi
    have a2 : R[R.idxOf t] = t := List.getElem_idxOf hj
    rw [← a1, ← a2]
    congr 1
set_option maxHeartbeats 8000000 in
set_option maxRecDepth 10000 in
theorem stable_walk (lv : Value) (xs : List Int) (w : World) (hx : NumsAt w lv xs) :
    Calls Try.prog 5 #[lv] w fun e w' => e = .returned (.bool true) ∧ Mod [] w w' := by
  obtain ⟨i0, hi0, hi1, hi2, hi3⟩ := info_parts info_type
  obtain ⟨j0, hj0, hj1, hj2, hj3⟩ := info_parts info_int
  have hxH := Lib.hid hx
  clear hx
  go_enter Try.func5, Try.ntmps5
  go_wp2_with fail
  refine (sc_new (Scene.empty w)).mono ?_
  rintro e w1 ⟨rb, rfl, _, hS⟩
  have hSH := Lib.hid hS
  clear hS
  go_wp2_with fail
  refine (sc_of hSH.out lv xs 100 (by omega) (hxH.out.mod hSH.out.mod (by simp))).mono ?_
  rintro e w2 ⟨b, A, B, rfl, hS2⟩
  have hS3 : Scene [] w [tapeC b 0 A B, fieldsC [], regC 58 rb [], rowC (.slice none 0 0) 0 31 2 (flat tcell []), rowC (.slice none 0 0) 0 3 1 (tagsOf [] [])] w2 := by
    obtain ⟨hm, fp, ⟨f1, _, h1, ⟨f2, _, h2, rfl, d2, rfl⟩, d1, rfl⟩, hf⟩ := hS2
    exact ⟨hm, f1 ++ ([] ++ (f2 ++ ([] ++ ([] ++ [])))), ⟨f1, _, h1, ⟨[], _, ⟨by simp, rfl⟩, ⟨f2, _, h2, ⟨[], _, ⟨World.ownsRow_nil _ _ _ _, rfl⟩, ⟨[], [], ⟨World.ownsRow_nil _ _ _ _, rfl⟩, rfl, by simp, rfl⟩, by simp, rfl⟩, by simp, rfl⟩, by simp, rfl⟩, by simpa using d1, rfl⟩, by simpa using hf⟩
  have hS3H := Lib.hid hS3
  clear hS2 hS3 hSH hxH
  go_wp2_with fail
  go_loopw [7, 5, 6] (fun i av tv wr => ∃ (k : Nat) (R : List Ty) (L : List (Ty × Value)), k ≤ 12 ∧ i = .int .i64 k ∧ L.length = k ∧ R.length ≤ k ∧ (∀ p ∈ L, p.1 ∈ R) ∧ Scene [] w [tapeC b (12 * k) A B, fieldsC L, regC 58 rb R, rowC av k 31 2 (flat tcell L), rowC tv k 3 1 (tagsOf R L)] wr) (fun i _ _ _ => 12 - (intOf i).toNat)
  case atStart => exact ⟨0, [], [], by omega, rfl, rfl, by simp, by simp, hS3H.out⟩
  case round =>
    obtain ⟨k, R, L, hk, rfl, hLk, hRk, hmem, hS⟩ := hrel
    have hSH := Lib.hid hS
    have hmemH := Lib.hid hmem
    clear hS hS3H hmem
    by_cases hk1 : k < 12
    · have hLkH := Lib.hid hLk
      clear hLk
      go_wp2_with fail
      refine (sc_type hSH.out (by omega)).mono ?_
      rintro e w3 ⟨len, g, cap, fs, rfl, hM, hS3⟩
      have herr := Lib.hid (made_err hM)
      obtain ⟨l1, l2, l3, l4⟩ := made_bounds hM
      have hS3 := hS3.alloc (.cells #[.int .i64 len, .slice (some ⟨g, 0, none⟩) fs.length cap] 31)
      have c8 := cells_of (hS3.block 0 rfl)
      have hS3H := Lib.hid hS3
      clear hSH hM hS3
      go_wp2_with fail
      refine (sc_register 4 hS3H.out rfl (row_fields (hS3H.out.row 1 rfl) rfl) (by omega) (by omega)).mono ?_
      rintro e w4 ⟨rfl, hS4⟩
      obtain ⟨hm, hv⟩ := regN_here (R := R) (t := (len, fs)) herr.out (by omega)
      have hN := regN_length R (len, fs)
      have htg := tagsOf_grow (t := (len, fs)) hmemH.out
      have hmem' : ∀ p ∈ L, p.1 ∈ regN R (len, fs) := fun p hp => regN_mem (hmemH.out p hp)
      rw [hv]
      rw [← htg] at hS4
      have hmemH := Lib.hid hmem'
      have hmH := Lib.hid hm
      have c8 := cells_of (hS4.block 0 rfl)
      have hS4H := Lib.hid hS4
      clear hS3H hS4 hv htg hmem' hm
      generalize regN R (len, fs) = R' at *
      have hR' : R'.length ≤ k + 1 := by omega
      have hix : R'.idxOf (len, fs) < R'.length := List.idxOf_lt_length_of_mem hmH.out
      clear hN hRk
      generalize hti : R'.idxOf (len, fs) = ti at *
      have htiH := Lib.hid hti
      clear hti
      go_wp2_with (first | (at_builtin; refine wpList_append_row _ rfl _ _ 43 rfl 31 i0 (.agg #[.int .i64 0, .slice none 0 0]) 2 32 Try.underlying43 hi0 hi1 hi2 hi3 rfl (by decide) u5 k (flat tcell L) rfl ((hS4H.out.row 5 rfl).alloc _) ⟨w4.heap.size, 0, none⟩ 1 1 [.int .i64 len, .slice (some ⟨g, 0, none⟩) fs.length cap] rfl rfl (cells2 _ _ _ _) (by simp [Value.oneCell']) (by unfold maxLen; omega) (by omega) ?_; intro av w6 hown hgrow hfr; have hS6H := Lib.hid ((hS4H.out.then ((Mod.refl [] w4).alloc (.cells #[.int .i64 len, .slice (some ⟨g, 0, none⟩) fs.length cap] 31))).grown 5 rfl hown hgrow hfr); clear hown hgrow hfr) | (at_builtin; refine wpList_append_row _ rfl _ _ 44 rfl 3 j0 (.int .i64 0) 1 8 Try.underlying44 hj0 hj1 hj2 hj3 rfl (by decide) u6 k (tagsOf R' L) rfl ((hS6H.out.row 6 rfl).alloc _) ⟨w6.heap.size, 0, none⟩ 1 1 [.int .i64 (ti + 1)] rfl rfl (cells1 _ _ _) (by simp [Value.oneCell']) (by unfold maxLen; omega) (by omega) ?_; intro tv w7 hown hgrow hfr; have hS7H := Lib.hid ((hS6H.out.then ((Mod.refl [] w6).alloc (.cells #[.int .i64 (ti + 1)] 3))).grown 6 rfl hown hgrow hfr); clear hown hgrow hfr))
      have hL' : (L ++ [((len, fs), Value.slice (some ⟨g, 0, none⟩) fs.length cap)]).length = k + 1 := by rw [List.length_append, hLkH.out]; rfl
      have e1 : flat tcell L ++ [.int .i64 len, .slice (some ⟨g, 0, none⟩) fs.length cap] = flat tcell (L ++ [((len, fs), .slice (some ⟨g, 0, none⟩) fs.length cap)]) := by rw [flat_append, flat_one]; rfl
      have e2 : tagsOf R' L ++ [.int .i64 (ti + 1)] = tagsOf R' (L ++ [((len, fs), .slice (some ⟨g, 0, none⟩) fs.length cap)]) := by
        unfold tagsOf
        rw [List.map_append, List.map_cons, List.map_nil, htiH.out]
      have hS8 := hS7H.out
      rw [e1, e2] at hS8
      have hS9 := scene_join (Scene.swap (scene_weaken 0 (c' := fieldsC [((len, fs), .slice (some ⟨g, 0, none⟩) fs.length cap)]) (hS8.erase 0) rfl (fun f h => ⟨fun p hp => by rw [List.mem_singleton.1 hp]; exact row_fields h.1 rfl, by rw [h.2]; rfl⟩)))
      have hS9H := Lib.hid hS9
      have hmem9 := Lib.hid (show ∀ p ∈ L ++ [((len, fs), Value.slice (some ⟨g, 0, none⟩) fs.length cap)], p.1 ∈ R' from fun p hp => by
        rcases List.mem_append.1 hp with h | h
        · exact hmemH.out p h
        · rw [List.mem_singleton.1 h]; exact hmH.out)
      clear hS8 hS9 hS7H hS6H hS4H e1 e2 c8
      go_roundw
      case rel => exact ⟨k + 1, R', _, by omega, by go_num, hL', hR', hmem9.out, hS9H.out⟩
      case measure => simp [intOf]; omega
    · obtain rfl : k = 12 := by omega
      obtain ⟨aa, an, ac, rfl⟩ : ∃ a n c, u5 = .slice a n c := by
        rcases row_cases (hSH.out.row 3 rfl) with ⟨h, _⟩ | ⟨_, _, h, _⟩ <;> exact ⟨_, _, _, h⟩
      obtain ⟨ta, tn, tc, rfl⟩ : ∃ a n c, u6 = .slice a n c := by
        rcases row_cases (hSH.out.row 4 rfl) with ⟨h, _⟩ | ⟨_, _, h, _⟩ <;> exact ⟨_, _, _, h⟩
      have hln := fun ty w => row_len (ty := ty) Try.underlying43 (hSH.out.row 3 rfl) w
      have hLkH := Lib.hid hLk
      clear hLk hRk
      go_wp2_with fail
      generalize hWR : wr = WR at *
      clear hWR
      simp only [show (((12 : Nat) : Int)) = 12 from rfl]
      go_loopw [42] (fun i wr2 => ∃ p : Nat, p ≤ 12 ∧ i = .int .i64 p ∧ Mod [] WR wr2) (fun i _ => 12 - (intOf i).toNat)
      case atStart => exact ⟨0, by omega, rfl, Mod.refl _ _⟩
      case round =>
        obtain ⟨p, hp, rfl, hm2⟩ := hrel
        by_cases hp1 : p < 12
        · have hS2 := hSH.out.then hm2
          have hS2H := Lib.hid hS2
          have hpL : p < L.length := by rw [hLkH.out]; exact hp1
          obtain ⟨g1, c1, e, hg1, r0, r1⟩ := ty_cells (hS2.row 3 rfl) hLkH.out hpL
          simp at e
          obtain ⟨rfl, rfl, rfl⟩ := e
          obtain ⟨g2, c2, e, _, hg2⟩ := row_pos (hS2.row 4 rfl) (by omega)
          simp at e
          obtain ⟨rfl, rfl, rfl⟩ := e
          have rt := (hS2.row 4 rfl).cellAt p (by omega)
          unfold tagsOf at rt
          rw [List.getElem?_map, List.getElem?_eq_getElem hpL] at rt
          simp only [Option.map_some] at rt
          have hmp := hmemH.out _ (List.getElem_mem hpL)
          obtain ⟨k1, k2⟩ := look_tag hmp
          have hFp := Lib.hid (scene_fields 1 hS2 rfl _ (List.getElem_mem hpL))
          have hLk := Lib.hid (sc_lookup 2 hS2 rfl (R.idxOf L[p].1 + 1))
          have hmpH := Lib.hid hmp
          have k1H := Lib.hid k1
          have k2H := Lib.hid k2
          clear hS2 k1 k2 hmp
          generalize hz : L[p] = z at *
          have hzH := Lib.hid hz
          clear hz
          obtain ⟨zt, zv⟩ := z
          simp only at r0 r1 rt hLk k1H k2H hFp hmpH
          have hti := List.idxOf_lt_length_of_mem hmpH.out
          generalize R.idxOf zt = ti at *
          go_wp2_with fail
          refine hLk.out.mono ?_
          rintro e w4 ⟨v', rfl, hF', hm4⟩
          rw [k1H.out] at hF' ⊢
          rw [k2H.out]
          obtain ⟨ya, ym, yc, rfl⟩ := hF'.slice
          have hb4 := at_alloc w4 (.cells #[.int .i64 zt.1, .slice ya ym yc] 31)
          have hm5 := hm4.alloc (.cells #[.int .i64 zt.1, .slice ya ym yc] 31)
          have hF5 := Lib.hid (hF'.mod ((Mod.refl [] w4).alloc (.cells #[.int .i64 zt.1, .slice ya ym yc] 31)))
          have hFp5 := Lib.hid (hFp.out.mod hm5)
          have r0' := (cell_mod hm5 hg1 (by simp)).trans r0
          have r1' := (cell_mod hm5 hg1 (by simp)).trans r1
          have hg1' := hm5.lt hg1
          have hmw := Lib.hid (hm2.nil_then hm5)
          clear hLk hF' hm4 hm5 r0 r1 rt k1H k2H hFp hm2 hg2
          go_wp2_with fail
          generalize w4.alloc (.cells #[.int .i64 zt.1, .slice ya ym yc] 31) = W5 at *
          have q1 := GW.cells (S := []) hb4 (by simp)
          have q2 := GW.cell1 (S := []) r0' hg1' (by simp)
          have q3 := GW.cell1 (S := []) r1' hg1' (by simp)
          clear hb4 r0' r1'
          refine wp_region_pure (by kernel_rfl) (by kernel_rfl) ?_
          refine stage_quiet 8 (by kernel_rfl) ?_
          simp only [List.take_succ_cons, List.take_zero, List.drop_succ_cons, List.drop_zero]
          repeat (go_big_quiet_step (fail))
          refine wpQuiet_nil ?_
          refine stage_pure 15 _ (.bool true) rfl Try.call15 rfl rfl (fun w' h => (rsame_ok zt.1 zt.1 _ _ zt.2 zt.2 w' (hF5.out.mod h) (hFp5.out.mod h)).mono fun e w'' ⟨he, hm⟩ => ⟨by rw [he]; simp, hm⟩) ?_
          simp only [Act.put, List.setIfInBounds_toArray, List.set_cons_succ, List.set_cons_zero]
          refine stage_quiet 2 (by kernel_rfl) ?_
          simp only [List.take_succ_cons, List.take_zero, List.drop_succ_cons, List.drop_zero]
          repeat (go_big_quiet_step (fail))
          refine wpQuiet_nil ?_
          refine stage_nil fun w6 hm6 => ?_
          have hmw6 := Lib.hid (hmw.out.nil_then hm6)
          clear q1 q2 q3 hF5 hFp5 hmw hm6
          go_wp2_with fail
          go_loopw [67] (fun i wr3 => ∃ q : Nat, q ≤ 12 ∧ i = .int .i64 q ∧ Mod [] WR wr3) (fun i _ => 12 - (intOf i).toNat)
          case atStart => exact ⟨0, by omega, rfl, hmw6.out⟩
          case round =>
            obtain ⟨q, hq, rfl, hm3⟩ := hrel
            clear hmw6
            by_cases hq1 : q < 12
            · have hS3 := hSH.out.then hm3
              have hqL : q < L.length := by rw [hLkH.out]; exact hq1
              obtain ⟨g1', c1', e, hg1, r0, r1⟩ := ty_cells (hS3.row 3 rfl) hLkH.out hpL
              simp at e
              obtain ⟨⟨rfl, -⟩, rfl⟩ := e
              obtain ⟨g1', c1', e, -, s0, s1⟩ := ty_cells (hS3.row 3 rfl) hLkH.out hqL
              simp at e
              obtain ⟨⟨rfl, -⟩, rfl⟩ := e
              obtain ⟨g2', c2', e, _, hg2⟩ := row_pos (hS3.row 4 rfl) (by omega)
              simp at e
              obtain ⟨rfl, rfl⟩ := e
              have rt := (hS3.row 4 rfl).cellAt p (by omega)
              have st := (hS3.row 4 rfl).cellAt q (by omega)
              unfold tagsOf at rt st
              rw [List.getElem?_map, List.getElem?_eq_getElem hpL] at rt
              rw [List.getElem?_map, List.getElem?_eq_getElem hqL] at st
              simp only [Option.map_some] at rt st
              have te := tag_eq (hmemH.out _ (List.getElem_mem hpL)) (hmemH.out _ (List.getElem_mem hqL))
              have hFp := Lib.hid (scene_fields 1 hS3 rfl _ (List.getElem_mem hpL))
              have hFq := Lib.hid (scene_fields 1 hS3 rfl _ (List.getElem_mem hqL))
              generalize R.idxOf L[p].1 = i1 at *
              generalize R.idxOf L[q].1 = i2 at *
              generalize L[p] = z1 at *
              generalize L[q] = z2 at *
              obtain ⟨dd, hdd⟩ : ∃ d, decide (z1.1.1 = z2.1.1 ∧ z1.1.2 = z2.1.2) = d := ⟨_, rfl⟩
              rw [hdd] at te
              have hddH := Lib.hid hdd
              have q1 := GW.cell1 (S := []) r0 hg1 (by simp)
              have q2 := GW.cell1 (S := []) r1 hg1 (by simp)
              have q3 := GW.cell1 (S := []) s0 hg1 (by simp)
              have q4 := GW.cell1 (S := []) s1 hg1 (by simp)
              have q5 := GW.cell1 (S := []) rt hg2 (by simp)
              have q6 := GW.cell1 (S := []) st hg2 (by simp)
              clear hS3 r0 r1 s0 s1 rt st hdd
              have hnd : (dd != dd) = false := by simp
              go_wp2_with fail
              refine wp_region_pure (by kernel_rfl) (by kernel_rfl) ?_
              refine stage_quiet 17 (by kernel_rfl) ?_
              simp only [List.take_succ_cons, List.take_zero, List.drop_succ_cons, List.drop_zero]
              repeat (go_big_quiet_step (fail))
              refine wpQuiet_nil ?_
              refine stage_pure 15 _ (.bool dd) rfl Try.call15 rfl rfl (fun w' h => (rsame_ok z1.1.1 z2.1.1 _ _ z1.1.2 z2.1.2 w' (hFp.out.mod h) (hFq.out.mod h)).mono fun e w'' ⟨he, hm⟩ => ⟨by rw [he, hddH.out], hm⟩) ?_
              simp only [Act.put, List.setIfInBounds_toArray, List.set_cons_succ, List.set_cons_zero]
              refine stage_quiet 1 (by kernel_rfl) ?_
              simp only [List.take_succ_cons, List.take_zero, List.drop_succ_cons, List.drop_zero]
              repeat (go_big_quiet_step (fail))
              refine wpQuiet_nil ?_
              refine stage_nil fun w7 hm7 => ?_
              have hm8 := hm3.nil_then hm7
              clear q1 q2 q3 q4 q5 q6 te hFp hFq hm3 hm7
              go_wp2_with fail
              go_roundw
              case rel => exact ⟨q + 1, by omega, by go_num, hm8⟩
              case measure => simp [intOf]; omega
            · obtain rfl : q = 12 := by omega
              go_wp2_with fail
              go_roundw
              case rel => exact ⟨p + 1, by omega, by go_num, hm3⟩
              case measure => simp [intOf]; omega
        · obtain rfl : p = 12 := by omega
          have hmm := hSH.out.mod.nil_then hm2
          clear hm2
          go_wp2_with fail
          refine (awake_ok _).mono ?_
          rintro e w9 ⟨rfl, hm9⟩
          go_wp2_with fail
          go_ret
          exact ⟨rfl, hmm.nil_then hm9⟩
end Go.Proofs.Ytkkjlioigdpacaa
