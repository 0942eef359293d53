/- LayoutPrefix: the walk of the law. -/
import Derived.Test.YtlnlclaoajjcbaaLayoutPlaces
namespace Go.Proofs.Ytlnlclaoajjcbaa
open Go Go.RowKit Go.Stg

theorem rec_ok {fs : List Fld} (hs : ∀ f ∈ fs, Small f) (h1 : 1 ≤ fs.length) (h2 : fs.length ≤ 10) : errT 0 fs = 0 ∧ countT 0 fs = fs.length ∧ sizeT 0 fs = sizeR fs := by
  have hg : Good fs := fun f hf => (small_good (hs f hf)).1
  obtain ⟨b1, b2, b3, b4⟩ := runL_bounds fs hg
  have b5 := runL_small fs hs
  have hsz : sizeT 0 fs = sizeR fs := by simp [sizeT]
  have hu := upI_bounds (n := (runL fs).1) (k := (runL fs).2) (by omega)
  have hsr : sizeR fs = upI (runL fs).1 (runL fs).2 := rfl
  have he : errT 0 fs = 0 := by
    unfold errT
    have hb : ¬ badT 0 fs := by
      rintro (⟨_, h⟩ | ⟨h, _⟩)
      · omega
      · omega
    rw [hsz, hsr]
    generalize upI (runL fs).1 (runL fs).2 = z at *
    rw [if_neg (by omega), if_neg (by omega), if_neg hb, if_neg (by omega), firstErr_good hg, if_neg (by simp), if_neg (by omega)]
  exact ⟨he, by unfold countT; rw [if_pos he, if_neg (by omega)], hsz⟩
theorem place_rec {fs : List Fld} (hs : ∀ f ∈ fs, Small f) (h2 : fs.length ≤ 10) (i : Nat) (hi : i < fs.length) : placeV 0 fs i = .tuple #[.agg #[.int .i64 (upI (runL (fs.take i)).1 (ali fs[i])), .int .i64 (wid fs[i]), .int .i64 fs[i].1], .int .i64 0] := by
  obtain ⟨he, hc, _⟩ := rec_ok hs (by omega) h2
  have t1 : 0 ≤ (i : Int) ∧ (i : Int) < countT 0 fs := ⟨by omega, by omega⟩
  unfold placeV placeC placeE
  rw [if_pos ⟨he, t1.1, t1.2⟩, if_neg (by omega), if_pos he, if_pos t1, outC_le, outC_here hi]
theorem runL_pow : ∀ (fs : List Fld), Good fs → ∀ k, k ≤ fs.length → (runL (fs.take k)).2 = 1 ∨ (runL (fs.take k)).2 = 2 ∨ (runL (fs.take k)).2 = 4 ∨ (runL (fs.take k)).2 = 8 := by
  intro fs hg k
  induction k with
  | zero => intro _; simp [runL]
  | succ k ih =>
    intro hk
    obtain ⟨g1, g2, g3, g4, g5⟩ := good_of (hg fs[k] (List.getElem_mem (by omega)))
    have ih := ih (by omega)
    rw [take_snoc fs (by omega), runL_snoc]
    unfold stepL
    show max _ _ = 1 ∨ max _ _ = 2 ∨ max _ _ = 4 ∨ max _ _ = 8
    omega
theorem size_grows {fs : List Fld} {f : Fld} (hg : Good fs) (hf : errF f = 0) : sizeR fs ≤ sizeR (fs ++ [f]) := by
  obtain ⟨g1, g2, g3, g4, g5⟩ := good_of hf
  have hp := runL_pow fs hg fs.length (Nat.le_refl _)
  rw [List.take_length] at hp
  unfold sizeR
  rw [runL_snoc]
  unfold stepL
  show upI (runL fs).1 (runL fs).2 ≤ upI (upI (runL fs).1 (ali f) + wid f) (max (runL fs).2 (ali f))
  generalize (runL fs).1 = e at *
  generalize (runL fs).2 = m at *
  generalize ali f = a at *
  have h1 := upI_bounds (n := e) (k := m) (by omega)
  have h2 := upI_bounds (n := e) (k := a) (by omega)
  have h3 := upI_bounds (n := upI e a + wid f) (k := max m a) (by omega)
  generalize upI (upI e a + wid f) (max m a) = u' at *
  generalize upI e m = u at *
  generalize upI e a = z at *
  rcases hp with rfl | rfl | rfl | rfl <;> rcases g5 with rfl | rfl | rfl | rfl <;> simp only [Int.max_def] at h3 <;> (first | omega | (simp at h3; omega))
theorem fields_cells {w : World} {g : Nat} {cap : Nat} {fs : List Fld} (h : FieldsAt w (.slice (some ⟨g, 0, none⟩) fs.length cap) fs) : g < w.heap.size ∧ fs.length ≤ maxLen ∧ ∀ j u, (fcells fs)[j]? = some u → w.cell? ((⟨g, 0, none⟩ : Addr).add j) = some u := by
  rcases h with ⟨h, _⟩ | ⟨sb, so, cap', e, h2, h3, h4⟩
  · simp at h
  · simp at e
    obtain ⟨⟨rfl, rfl⟩, rfl⟩ := e
    refine ⟨h2, h3, fun j u hj => ?_⟩
    rw [add_at, Nat.zero_add]
    have hl := (List.getElem?_eq_some_iff.1 hj).1
    rw [fcells_length] at hl
    have hlt : j / 2 < fs.length := by omega
    obtain ⟨c1, c2⟩ := h4 (j / 2) hlt
    obtain ⟨f1, f2⟩ := fcells_at fs (j / 2) hlt
    rw [Nat.zero_add] at c1 c2
    rcases Nat.mod_two_eq_zero_or_one j with hm | hm
    · have e : j / 2 * 2 = j := by omega
      rw [e] at c1 f1
      rw [c1, ← f1, hj]
    · have e : j / 2 * 2 + 1 = j := by omega
      rw [e] at c2 f2
      rw [c2, ← f2, hj]
theorem fcells_one (fs : List Fld) : ∀ u ∈ fcells fs, u.oneCell' = true := by
  intro u hu
  simp only [fcells, List.mem_flatMap] at hu
  obtain ⟨f, _, hu⟩ := hu
  simp at hu
  rcases hu with rfl | rfl <;> rfl
set_option maxHeartbeats 4000000 in
set_option maxRecDepth 10000 in
theorem prefix_walk (lv mv : Value) (xs ys : List Int) (w : World) (h : NumsAt w lv xs) (hN : NumsAt w mv ys) :
    Calls Try.prog 7 #[lv, mv] w fun e w' => e = .returned (.bool true) ∧ Mod [] w w' := by
  obtain ⟨i0, hi0, hz0, hz1, hz2⟩ := info_parts info_field
  have hO := Lib.hid (of_ok lv xs 30 (by omega) w h)
  clear h
  go_enter Try.func7, Try.ntmps7
  go_wp2_with fail
  refine hO.out.mono ?_
  rintro e w1 ⟨b, rfl, hm1, hT1, hb1⟩
  go_wp2_with fail
  refine (type_ok b 0 _ w1 hT1 (by omega)).mono ?_
  rintro e w2 ⟨len, g, cap, fs, rfl, hF, hM, hcap, hm2, hg⟩
  have hm2 := hm1.then hm2 (fun z hz => .inr (by rw [List.mem_singleton.1 hz]; exact hb1))
  clear hO hT1 hm1 hb1
  have q0 := at_alloc w2 (.cells #[.int .i64 len, .slice (some ⟨g, 0, none⟩) fs.length cap] 24)
  have hm3 := hm2.alloc (.cells #[.int .i64 len, .slice (some ⟨g, 0, none⟩) fs.length cap] 24)
  have hF := hF.mod ((Mod.refl [] w2).alloc (.cells #[.int .i64 len, .slice (some ⟨g, 0, none⟩) fs.length cap] 24))
  by_cases hp : 0 < len
  · clear hF hM
    go_wp2_with fail
    refine (awake_ok _).mono ?_
    rintro e w3 ⟨rfl, hm4⟩
    go_wp2_with fail
    go_ret
    exact ⟨rfl, hm3.nil_then hm4⟩
  · obtain ⟨hs, ⟨rfl, l1, l4⟩ | ⟨h1, _⟩⟩ := hM
    · have hsz : (w2.alloc (.cells #[.int .i64 0, .slice (some ⟨g, 0, none⟩) fs.length cap] 24)).heap.size = w2.heap.size + 1 := by simp
      have hW : ∃ W, w2.alloc (.cells #[.int .i64 0, .slice (some ⟨g, 0, none⟩) fs.length cap] 24) = W := ⟨_, rfl⟩
      obtain ⟨W, hW⟩ := hW
      rw [hW] at q0 hm3 hF hsz
      obtain ⟨hgw, hfl, hcel⟩ := fields_cells hF
      have hcA : ∀ j u, (fcells fs)[j]? = some u → (W.alloc (.cells #[] 36 (0, 0))).cell? ((⟨g, 0, none⟩ : Addr).add j) = some u := fun j u hj => by
        have := hcel j u hj
        rw [add_at] at this ⊢
        rw [cell_mod ((Mod.refl [] W).alloc _) hgw (by simp)]
        exact this
      have hown : (W.alloc (.cells #[] 36 (0, 0))).ownsRow 0 36 2 (.slice (some ⟨W.heap.size, 0, none⟩) 0 0) 0 [] := World.ownsRow_made W #[] 0 (Nat.zero_le _) (Nat.zero_le _) rfl
      have h63 : 0 + fs.length ≤ maxLen := by unfold maxLen; omega
      have hby : (0 + fs.length) * 16 ≤ 140737488355328 := by omega
      have hcAH := Lib.hid hcA
      clear hcA hcel hp
      rw [hsz] at hown
      have hWs := Lib.hid hsz
      clear hsz hcap
      subst hW
      go_wp2_with (first | (at_builtin; refine wpList_append_row _ rfl _ _ 22 rfl 36 i0 (.agg #[.int .i64 0, .int .i64 0]) 2 16 Try.underlying22 hi0 hz0 hz1 hz2 rfl (by decide) (.slice (some ⟨w2.heap.size + 1, 0, none⟩) 0 0) 0 [] rfl hown ⟨g, 0, none⟩ fs.length cap (fcells fs) rfl (fcells_length fs) hcAH.out (fcells_one fs) h63 hby ?_; intro v1 w3 hown1 hgrow1 hfr1; simp only [Nat.zero_add, List.nil_append] at hown1; obtain ⟨g1, cap1, rfl, _, _⟩ := row_pos hown1 (by omega)))
      have hws := hm2.size
      have hmW : Mod [] (w2.alloc (.cells #[.int .i64 0, .slice (some ⟨g, 0, none⟩) fs.length cap] 24)) w3 := ((Mod.refl [] _).alloc _).grown hgrow1 (fun j hj => .inr (by have hj' : some (w2.heap.size + 1) = some j := hj; have := Option.some.inj hj'; have := hWs.out; omega))
      have hg1 : w2.heap.size + 1 ≤ g1 := by
        rcases hfr1 g1 rfl with h | h
        · have hj' : some (w2.heap.size + 1) = some g1 := h
          have := Option.some.inj hj'; omega
        · have := hWs.out; rw [World.size_alloc] at h; omega
      have hgs : g < w2.heap.size + 1 := by have := hWs.out; omega
      have qt := hmW.at q0 (by simp)
      have hF3 := hF.mod hmW
      have hm4 := hm3.nil_then hmW
      clear hF q0 hown hcAH hgrow1 hfr1 hmW hWs hgw hm3
      refine (of_ok mv ys 4 (by omega) w3 (hN.mod hm4 (by simp))).mono ?_
      rintro e w4 ⟨b2, rfl, hm5, hT, hb2⟩
      go_wp2_with fail
      refine (field_ok b2 0 _ w4 hT (by omega)).mono ?_
      rintro e w5 ⟨k, c, rfl, hsm, hm6, _⟩
      have hm7 := hm5.then hm6 (fun z hz => .inr (by rw [List.mem_singleton.1 hz]; exact hb2))
      have qt5 := hm7.at qt (by simp)
      have hF5 := hF3.mod hm7
      have hown5 := row_mod hown1 hm7 (by simp)
      have hm8 := hm4.nil_then hm7
      clear hm4 hm5 hm6 hm7 hT qt hF3 hown1 hb2 hN
      have h64 : fs.length + 1 ≤ maxLen := by unfold maxLen; omega
      have hby4 : (fs.length + 1) * 16 ≤ 140737488355328 := by omega
      go_wp2_with (first | (at_builtin; refine wpList_append_row _ rfl _ _ 22 rfl 36 i0 (.agg #[.int .i64 0, .int .i64 0]) 2 16 Try.underlying22 hi0 hz0 hz1 hz2 rfl (by decide) (.slice (some ⟨g1, 0, none⟩) fs.length cap1) fs.length (fcells fs) rfl (hown5.alloc _) ⟨w5.heap.size, 0, none⟩ 1 1 [.int .i64 k, .int .i64 c] rfl rfl (cells2 _ _ _ _) (by simp [Value.oneCell']) h64 hby4 ?_; intro v2 w6 hown6 hgrow6 hfr6; obtain ⟨g2, cap2, rfl, _, _⟩ := row_pos hown6 (by omega)))
      have hm9 : Mod [g1] w5 w6 := ((Mod.refl [g1] w5).alloc _).grown hgrow6 (fun j hj => .inl (by have hj' : some g1 = some j := hj; rw [Option.some.inj hj']; simp))
      have qt6 := at_alloc_old (o := .cells #[.int .i64 0, .slice (some ⟨g2, 0, none⟩) (fs.length + 1) cap2] 24) (hm9.at qt5 (by simp; omega))
      have hF6 := (hF5.modS hm9 (fun x hx => by have hx' : some g = some x := hx; obtain rfl := Option.some.inj hx'; simp; omega)).mod ((Mod.refl [] w6).alloc (.cells #[.int .i64 0, .slice (some ⟨g2, 0, none⟩) (fs.length + 1) cap2] 24))
      have hsn : fcells (fs ++ [(k, c)]) = fcells fs ++ [.int .i64 k, .int .i64 c] := fcells_snoc fs (k, c)
      rw [← hsn] at hown6
      have hFu := (row_fields hown6 (by simp)).mod ((Mod.refl [] w6).alloc (.cells #[.int .i64 0, .slice (some ⟨g2, 0, none⟩) (fs.length + 1) cap2] 24))
      have qu6 := at_alloc w6 (.cells #[.int .i64 0, .slice (some ⟨g2, 0, none⟩) (fs.length + 1) cap2] 24)
      have hm10 := (hm8.then hm9 (fun z hz => .inr (by rw [List.mem_singleton.1 hz]; omega))).alloc (.cells #[.int .i64 0, .slice (some ⟨g2, 0, none⟩) (fs.length + 1) cap2] 24)
      have hsu : ∀ f ∈ fs ++ [(k, c)], Small f := fun f hf => by
        rcases List.mem_append.1 hf with hf | hf
        · exact hs f hf
        · rw [List.mem_singleton.1 hf]; exact hsm
      have hul : (fs ++ [(k, c)]).length = fs.length + 1 := by simp
      clear hown5 hgrow6 hfr6 hown6 qt5 hF5 hm8 hm9 hsn
      generalize w6.heap.size = U at *
      generalize w6.alloc (.cells #[.int .i64 0, .slice (some ⟨g2, 0, none⟩) (fs.length + 1) cap2] 24) = W7 at *
      obtain ⟨et, ct, st⟩ := rec_ok hs (by omega) (by omega)
      obtain ⟨eu, cu, su⟩ := rec_ok hsu (by omega) (by omega)
      have hle := size_grows (fs := fs) (f := (k, c)) (fun f hf => (small_good (hs f hf)).1) (small_good hsm).1
      have vt : sizeV 0 fs = .tuple #[.int .i64 (sizeR fs), .int .i64 0] := by unfold sizeV; rw [if_pos et, et, st]
      have vu : sizeV 0 (fs ++ [(k, c)]) = .tuple #[.int .i64 (sizeR (fs ++ [(k, c)])), .int .i64 0] := by unfold sizeV; rw [if_pos eu, eu, su]
      have zt := Lib.hid fun (w' : World) (h : Mod [] W7 w') => sizeF_ok 0 _ _ w' (hF6.mod h) (by omega) (by omega)
      have zu := Lib.hid fun (w' : World) (h : Mod [] W7 w') => sizeF_ok 0 _ _ w' (hFu.mod h) (by omega) (by omega)
      have zc := Lib.hid fun (w' : World) (h : Mod [] W7 w') => count_ok 0 _ _ w' (hFu.mod h) (by omega) (by omega)
      have pt := Lib.hid fun (i : Nat) (w' : World) (h : Mod [] W7 w') => place_ok 0 _ _ i w' (hF6.mod h) (by omega) (by omega)
      have pu := Lib.hid fun (i : Nat) (w' : World) (h : Mod [] W7 w') => place_ok 0 _ _ i w' (hFu.mod h) (by omega) (by omega)
      have pv := Lib.hid fun (i : Nat) (hi : i < fs.length) => place_rec hs (by omega) i hi
      have pw : ∀ (i : Nat) (hi : i < fs.length), placeV 0 (fs ++ [(k, c)]) i = placeV 0 fs i := fun i hi => by
        rw [place_rec hs (by omega) i hi, place_rec hsu (by omega) i (by omega), List.take_append_of_le_length (by omega), List.getElem_append_left hi]
      have pwH := Lib.hid pw
      rw [vt] at zt
      rw [vu] at zu
      rw [cu, hul] at zc
      clear vt vu et ct st eu cu su hF6 hFu hs hsu pw hsm
      generalize sizeR (fs ++ [(k, c)]) = su at *
      generalize sizeR fs = st at *
      go_loopw [7] (fun iv wr => ∃ i : Nat, i ≤ fs.length ∧ iv = .int .i64 i ∧ Mod [] W7 wr) (fun iv _ => fs.length - (intOf iv).toNat)
      case atStart => exact ⟨0, by omega, rfl, Mod.refl _ _⟩
      case round =>
        obtain ⟨i, hi, rfl, hm11⟩ := hrel
        have ct := cells_of (hm11.at qt6 (by simp))
        by_cases hlt : i < fs.length
        · have hP1 := pt.out i wr hm11
          rw [pv.out i hlt] at hP1
          have hV2 := (pwH.out i hlt).trans (pv.out i hlt)
          generalize upI (runL (fs.take i)).1 (ali fs[i]) = x at *
          generalize wid fs[i] = y at *
          generalize fs[i].1 = z at *
          have hP1H := Lib.hid hP1
          have hV2H := Lib.hid hV2
          clear hP1 hV2
          go_wp2_with fail
          refine hP1H.out.mono ?_
          rintro e w8 ⟨rfl, hm12⟩
          have hm13 := (hm11.nil_then hm12).alloc (.cells #[.int .i64 x, .int .i64 y, .int .i64 z] 44)
          have r1 := at_alloc w8 (.cells #[.int .i64 x, .int .i64 y, .int .i64 z] 44)
          clear ct hP1H hm12
          have cu := cells_of (hm13.at qu6 (by simp))
          have hP2 := pu.out i _ hm13
          rw [hV2H.out] at hP2
          have hP2H := Lib.hid hP2
          clear hP2
          go_wp2_with fail
          refine hP2H.out.mono ?_
          rintro e w9 ⟨rfl, hm14⟩
          have r2 := at_alloc_old (o := .cells #[.int .i64 x, .int .i64 y, .int .i64 z] 44) (hm14.at r1 (by simp))
          have hm15 := (hm13.nil_then hm14).alloc (.cells #[.int .i64 x, .int .i64 y, .int .i64 z] 44)
          have c2 := cells_of r2
          clear cu hP2H r1 hm14
          go_wp2_with fail
          go_roundw
          case rel => exact ⟨i + 1, by omega, by go_num, hm15⟩
          case measure => simp [intOf]; omega
        · obtain rfl : i = fs.length := by omega
          go_wp2_with fail
          refine (zt.out _ hm11).mono ?_
          rintro e w8 ⟨rfl, hm12⟩
          have hm12 := hm11.nil_then hm12
          clear ct
          have cu := cells_of (hm12.at qu6 (by simp))
          go_wp2_with fail
          refine (zu.out _ hm12).mono ?_
          rintro e w9 ⟨rfl, hm13⟩
          have hm13 := hm12.nil_then hm13
          have rt := hm13.at qt6 (by simp)
          have ru := hm13.at qu6 (by simp)
          clear cu
          go_wp2_with fail
          have k0 := GW.cells (S := []) rt (by simp)
          have k1 := GW.cells (S := []) ru (by simp)
          refine wp_region_pure (by kernel_rfl) (by kernel_rfl) ?_
          refine stage_quiet 0 (by kernel_rfl) ?_
          simp only [List.take_succ_cons, List.take_zero, List.drop_succ_cons, List.drop_zero]
          repeat (go_big_quiet_step (fail))
          refine wpQuiet_nil ?_
          refine stage_pure 10 _ (.bool true) rfl Try.call10 rfl rfl (fun w' _ => awake_ok w') ?_
          simp only [Act.put, List.setIfInBounds_toArray, List.set_cons_succ, List.set_cons_zero]
          refine stage_quiet 15 (by kernel_rfl) ?_
          simp only [List.take_succ_cons, List.take_zero, List.drop_succ_cons, List.drop_zero]
          repeat (go_big_quiet_step (fail))
          refine wpQuiet_nil ?_
          refine stage_pure 15 _ (.int .i64 ((fs.length + 1 : Nat) : Int)) rfl Try.call15 rfl rfl (fun w' h => zc.out w' (hm13.nil_then h)) ?_
          simp only [Act.put, List.setIfInBounds_toArray, List.set_cons_succ, List.set_cons_zero]
          refine stage_quiet 7 (by kernel_rfl) ?_
          simp only [List.take_succ_cons, List.take_zero, List.drop_succ_cons, List.drop_zero]
          repeat (go_big_quiet_step (fail))
          refine wpQuiet_nil ?_
          refine stage_nil fun w10 hm14 => ?_
          go_wp2_with fail
          go_ret
          exact ⟨rfl, (hm10.nil_then hm13).nil_then hm14⟩
    · omega
end Go.Proofs.Ytlnlclaoajjcbaa
