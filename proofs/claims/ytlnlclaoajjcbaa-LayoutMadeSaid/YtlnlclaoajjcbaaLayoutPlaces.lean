/- LayoutPlaces: the walk of the law. -/
import Derived.Test.YtlnlclaoajjcbaaLayoutArray
namespace Go.Proofs.Ytlnlclaoajjcbaa
open Go Go.RowKit Go.Stg

theorem runL_mono (fs : List Fld) (hg : Good fs) : ∀ k, k < fs.length → (runL (fs.take k)).1 ≤ (runL (fs.take (k + 1))).1 ∧ (runL (fs.take k)).2 ≤ (runL (fs.take (k + 1))).2 := by
  intro k hk
  obtain ⟨g1, g2, g3, g4, g5⟩ := good_of (hg fs[k] (List.getElem_mem hk))
  have hu := upI_bounds (n := (runL (fs.take k)).1) (k := ali fs[k]) (by omega)
  rw [take_snoc fs hk, runL_snoc]
  unfold stepL
  generalize upI (runL (fs.take k)).1 (ali fs[k]) = z at *
  exact ⟨by show _ ≤ z + wid fs[k]; omega, by show _ ≤ max _ _; omega⟩
theorem runL_le (fs : List Fld) (hg : Good fs) : ∀ d k, k + d ≤ fs.length → (runL (fs.take k)).1 ≤ (runL (fs.take (k + d))).1 := by
  intro d
  induction d with
  | zero => intro k _; exact Int.le_refl _
  | succ d ih =>
    intro k hk
    exact Int.le_trans (ih k (by omega)) (runL_mono fs hg (k + d) (by omega)).1
/-- A small record's end. -/
theorem runL_small (fs : List Fld) (hs : ∀ f ∈ fs, Small f) : (runL fs).1 ≤ fs.length * 16 := by
  have hg : Good fs := fun f hf => (small_good (hs f hf)).1
  have h : ∀ k, k ≤ fs.length → (runL (fs.take k)).1 ≤ k * 16 := by
    intro k
    induction k with
    | zero => intro _; simp [runL]
    | succ k ih =>
      intro hk
      have ih := ih (by omega)
      obtain ⟨g1, g2, g3, g4, g5⟩ := good_of (hg fs[k] (List.getElem_mem (by omega)))
      have hw := (small_good (hs fs[k] (List.getElem_mem (by omega)))).2.2
      obtain ⟨b1, b2, b3, b4⟩ := runL_take fs hg k (by omega)
      have hu := upI_bounds (n := (runL (fs.take k)).1) (k := ali fs[k]) (by omega)
      rw [take_snoc fs (by omega), runL_snoc]
      unfold stepL
      show upI _ _ + wid fs[k] ≤ _
      generalize upI (runL (fs.take k)).1 (ali fs[k]) = z at *
      push_cast
      omega
  have := h fs.length (Nat.le_refl _)
  rwa [List.take_length] at this
def endT (len : Int) (fs : List Fld) (i : Nat) : Int := if 0 < len then i * wid (hd fs) else (runL (fs.take i)).1
theorem made_ok {len : Int} {fs : List Fld} (h : Made len fs) : errT len fs = 0 ∧ 1 ≤ sizeT len fs ∧ sizeT len fs ≤ 65536 ∧ 1 ≤ countT len fs ∧ countT len fs ≤ 5 := by
  obtain ⟨hs, ⟨rfl, h1, h2⟩ | ⟨h1, h2, h3⟩⟩ := h
  · have hg : Good fs := fun f hf => (small_good (hs f hf)).1
    obtain ⟨b1, b2, b3, b4⟩ := runL_bounds fs hg
    have b5 := runL_small fs hs
    have hsz : sizeT 0 fs = sizeR fs := by simp [sizeT]
    have hu := upI_bounds (n := (runL fs).1) (k := (runL fs).2) (by omega)
    have hle := runL_le fs hg (fs.length - 1) 1 (by omega)
    have h1s : (runL (fs.take 1)).1 ≥ 1 := by
      have e : fs.take 1 = [] ++ [fs[0]] := by
        have := take_snoc fs (k := 0) (by omega)
        simpa using this
      obtain ⟨g1, g2, g3, g4, g5⟩ := good_of (hg fs[0] (List.getElem_mem (by omega)))
      rw [e, runL_snoc]
      have hu := upI_bounds (n := (runL []).1) (k := ali fs[0]) (by omega)
      unfold stepL
      show upI _ _ + wid fs[0] ≥ 1
      have : (runL []).1 = 0 := rfl
      generalize upI (runL []).1 (ali fs[0]) = z at *
      omega
    have e1 : 1 + (fs.length - 1) = fs.length := by omega
    rw [e1, List.take_length] at hle
    have hsr : sizeR fs = upI (runL fs).1 (runL fs).2 := rfl
    rw [hsz, hsr]
    generalize upI (runL fs).1 (runL fs).2 = z at *
    have he : errT 0 fs = 0 := by
      unfold errT
      have hb : ¬ badT 0 fs := by
        rintro (⟨_, h⟩ | ⟨h, _⟩)
        · omega
        · omega
      rw [if_neg (by omega), if_neg (by omega), if_neg hb, if_neg (by omega), firstErr_good hg, if_neg (by simp), hsz, hsr, if_neg (by omega)]
    have hc : countT 0 fs = fs.length := by unfold countT; rw [if_pos he, if_neg (by omega)]
    exact ⟨he, by omega, by omega, by omega, by omega⟩
  · match fs, h3 with
    | [f], _ =>
      obtain ⟨e1, e2, e3⟩ := arr_ok (len := len) (f := f) h1 (by omega) (hs f (by simp))
      obtain ⟨g1, g2, g3⟩ := small_good (hs f (by simp))
      have hm : len * wid f ≤ 5 * 9 := Int.mul_le_mul h2 g3 (by omega) (by omega)
      have hm0 : 1 * 1 ≤ len * wid f := Int.mul_le_mul h1 g2 (by omega) (by omega)
      exact ⟨e1, by omega, by omega, by omega, by omega⟩
theorem place_made {len : Int} {fs : List Fld} (h : Made len fs) (i : Nat) (hi : (i : Int) < countT len fs) : ∃ off wd kd : Int, placeV len fs i = .tuple #[.agg #[.int .i64 off, .int .i64 wd, .int .i64 kd], .int .i64 0] ∧
    0 ≤ endT len fs i ∧ endT len fs i ≤ off ∧ 1 ≤ wd ∧ off + wd ≤ sizeT len fs ∧ (kd ≠ 6 → off % wd = 0) ∧ off - endT len fs i < 8 ∧ endT len fs (i + 1) = off + wd := by
  obtain ⟨he, m1, m2, m3, m4⟩ := made_ok h
  have t1 : 0 ≤ (i : Int) ∧ (i : Int) < countT len fs := ⟨by omega, hi⟩
  obtain ⟨hs, ⟨rfl, h1, h2⟩ | ⟨h1, h2, h3⟩⟩ := h
  · have hg : Good fs := fun f hf => (small_good (hs f hf)).1
    have hc : countT 0 fs = fs.length := by unfold countT; rw [if_pos he, if_neg (by omega)]
    have hif : i < fs.length := by omega
    obtain ⟨g1, g2, g3, g4, g5⟩ := good_of (hg fs[i] (List.getElem_mem hif))
    obtain ⟨b1, b2, b3, b4⟩ := runL_take fs hg i (by omega)
    obtain ⟨c1, c2, c3, c4⟩ := runL_bounds fs hg
    have hu := upI_bounds (n := (runL (fs.take i)).1) (k := ali fs[i]) (by omega)
    have hu2 := upI_bounds (n := (runL fs).1) (k := (runL fs).2) (by omega)
    have hle := runL_le fs hg (fs.length - (i + 1)) (i + 1) (by omega)
    have e1 : i + 1 + (fs.length - (i + 1)) = fs.length := by omega
    rw [e1, List.take_length] at hle
    have hsn : (runL (fs.take (i + 1))).1 = upI (runL (fs.take i)).1 (ali fs[i]) + wid fs[i] := by rw [take_snoc fs hif, runL_snoc]; rfl
    have hsz : sizeT 0 fs = upI (runL fs).1 (runL fs).2 := by simp [sizeT, sizeR]
    refine ⟨upI (runL (fs.take i)).1 (ali fs[i]), wid fs[i], fs[i].1, ?_, ?_⟩
    · unfold placeV placeC placeE
      rw [if_pos ⟨he, t1.1, t1.2⟩, if_neg (by omega), if_pos he, if_pos t1, outC_le, outC_here hif]
    · unfold endT
      rw [if_neg (by omega), if_neg (by omega), hsn, hsz]
      have hal : fs[i].1 ≠ 6 → ali fs[i] = wid fs[i] := fun h => by unfold ali; rw [if_neg h]
      refine ⟨b1, hu.1, g3, by omega, fun hk => ?_, by omega, rfl⟩
      have := hu.2.2
      rw [hal hk] at this
      rw [hal hk]
      exact this
  · match fs, h3 with
    | [f], _ =>
      obtain ⟨e1, e2, e3⟩ := arr_ok (len := len) (f := f) h1 (by omega) (hs f (by simp))
      obtain ⟨g1, g2, g3⟩ := small_good (hs f (by simp))
      have hd1 : hd [f] = f := rfl
      have hil : (i : Int) + 1 ≤ len := by omega
      have hm : ((i : Int) + 1) * wid f ≤ len * wid f := Int.mul_le_mul_of_nonneg_right hil (by omega)
      have hm0 : 0 ≤ (i : Int) * wid f := Int.mul_nonneg (by omega) (by omega)
      have hdist : ((i : Int) + 1) * wid f = i * wid f + wid f := by rw [Int.add_mul, Int.one_mul]
      refine ⟨i * wid f, wid f, f.1, ?_, ?_⟩
      · unfold placeV placeC placeE
        rw [if_pos ⟨he, t1.1, t1.2⟩, if_pos (show 0 < len by omega), if_pos he, if_pos t1, hd1]
      · unfold endT
        rw [if_pos (show 0 < len by omega), if_pos (show 0 < len by omega), hd1, e2]
        push_cast
        rw [hdist] at hm ⊢
        exact ⟨hm0, Int.le_refl _, g2, hm, fun _ => Int.mul_emod_left _ _, by omega, rfl⟩
theorem end_made {len : Int} {fs : List Fld} (h : Made len fs) (m : Nat) (hm : countT len fs = m) : endT len fs 0 = 0 ∧ sizeT len fs - endT len fs m < 8 ∧ endT len fs m ≤ sizeT len fs ∧ 0 ≤ endT len fs m := by
  obtain ⟨he, m1, m2, m3, m4⟩ := made_ok h
  obtain ⟨hs, ⟨rfl, h1, h2⟩ | ⟨h1, h2, h3⟩⟩ := h
  · have hg : Good fs := fun f hf => (small_good (hs f hf)).1
    have hc : countT 0 fs = fs.length := by unfold countT; rw [if_pos he, if_neg (by omega)]
    have hmf : m = fs.length := by omega
    subst hmf
    obtain ⟨c1, c2, c3, c4⟩ := runL_bounds fs hg
    have hu2 := upI_bounds (n := (runL fs).1) (k := (runL fs).2) (by omega)
    have hsz : sizeT 0 fs = upI (runL fs).1 (runL fs).2 := by simp [sizeT, sizeR]
    unfold endT
    rw [if_neg (by omega), if_neg (by omega), hsz, List.take_length]
    exact ⟨rfl, by omega, by omega, by omega⟩
  · match fs, h3 with
    | [f], _ =>
      obtain ⟨e1, e2, e3⟩ := arr_ok (len := len) (f := f) h1 (by omega) (hs f (by simp))
      obtain ⟨g1, g2, g3⟩ := small_good (hs f (by simp))
      have hd1 : hd [f] = f := rfl
      have hml : (m : Int) = len := by omega
      unfold endT
      rw [if_pos (show 0 < len by omega), if_pos (show 0 < len by omega), hd1, e2, hml]
      exact ⟨by simp, by omega, by omega, by omega⟩
set_option maxHeartbeats 4000000 in
set_option maxRecDepth 10000 in
theorem places_walk (lv : Value) (xs : List Int) (w : World) (h : NumsAt w lv xs) :
    Calls Try.prog 6 #[lv] w fun e w' => e = .returned (.bool true) ∧ Mod [] w w' := by
  have hO := Lib.hid (of_ok lv xs 30 (by omega) w h)
  clear h
  go_enter Try.func6, Try.ntmps6
  go_wp2_with fail
  refine hO.out.mono ?_
  rintro e w1 ⟨b, rfl, hm1, hT1, hb1⟩
  go_wp2_with fail
  refine (type_ok b 0 _ w1 hT1 (by omega)).mono ?_
  rintro e w2 ⟨len, g, cap, fs, rfl, hF, hM, hcap, hm2, hg⟩
  go_wp2_with fail
  have hm2 := hm1.then hm2 (fun z hz => .inr (by rw [List.mem_singleton.1 hz]; exact hb1))
  clear hO hT1 hm1 hb1
  obtain ⟨he, z1, z2, z3, z4⟩ := made_ok hM
  have hlen : -9223372036854775808 ≤ len ∧ len ≤ 9223372036854775807 := by
    rcases hM.2 with ⟨h, _⟩ | ⟨h1, h2, _⟩ <;> omega
  have q0 := at_alloc w2 (.cells #[.int .i64 len, .slice (some ⟨g, 0, none⟩) fs.length cap] 24)
  have hm2 := hm2.alloc (.cells #[.int .i64 len, .slice (some ⟨g, 0, none⟩) fs.length cap] 24)
  have hF := hF.mod ((Mod.refl [] w2).alloc (.cells #[.int .i64 len, .slice (some ⟨g, 0, none⟩) fs.length cap] 24))
  have hv : sizeV len fs = .tuple #[.int .i64 (sizeT len fs), .int .i64 0] := by unfold sizeV; rw [if_pos he, he]
  obtain ⟨m, hmc⟩ := Int.eq_ofNat_of_zero_le (show 0 ≤ countT len fs by omega)
  have hpl := Lib.hid fun i hi => place_made hM i hi
  have hen := end_made hM m hmc
  clear hM hcap he
  generalize w2.alloc (.cells #[.int .i64 len, .slice (some ⟨g, 0, none⟩) fs.length cap] 24) = W at *
  have hS := Lib.hid fun (w' : World) (h : Mod [] W w') => sizeF_ok len _ fs w' (hF.mod h) hlen.1 hlen.2
  have hC := Lib.hid fun (w' : World) (h : Mod [] W w') => count_ok len _ fs w' (hF.mod h) hlen.1 hlen.2
  have hP := Lib.hid fun (i : Int) (w' : World) (h : Mod [] W w') => place_ok len _ fs i w' (hF.mod h) hlen.1 hlen.2
  rw [hv] at hS
  rw [hmc] at hC hpl z3 z4
  clear hv hF
  generalize sizeT len fs = n at *
  generalize endT len fs = en at *
  obtain ⟨n0, n1, n2, n3⟩ := hen
  refine (hS.out _ (Mod.refl _ _)).mono ?_
  rintro e w3 ⟨rfl, hm3⟩
  have cb := cells_of (hm3.at q0 (by simp))
  go_wp2_with fail
  refine (hC.out _ hm3).mono ?_
  rintro e w4 ⟨rfl, hm4⟩
  have hm4 := hm3.nil_then hm4
  clear cb hm3
  go_wp2_with fail
  go_loopw [6, 7] (fun ev iv wr => ∃ i : Nat, i ≤ m ∧ iv = .int .i64 i ∧ ev = .int .i64 (en i) ∧ Mod [] W wr) (fun _ iv _ => m - (intOf iv).toNat)
  case atStart => exact ⟨0, by omega, rfl, by rw [n0], hm4⟩
  case round =>
    obtain ⟨i, hi, rfl, rfl, hm5⟩ := hrel
    clear hm4
    have cb := cells_of (hm5.at q0 (by simp))
    go_wp2_with fail
    refine (hC.out _ hm5).mono ?_
    rintro e w5 ⟨rfl, hm6⟩
    have hm6 := hm5.nil_then hm6
    clear cb
    have cb := cells_of (hm6.at q0 (by simp))
    by_cases hlt : i < m
    · obtain ⟨off, wd, kd, hV, p1, p2, p3, p4, p5, p6, p7⟩ := hpl.out i (by omega)
      have hPi := Lib.hid (hP.out i _ hm6)
      rw [hV] at hPi
      clear hV
      go_wp2_with fail
      refine hPi.out.mono ?_
      rintro e w6 ⟨rfl, hm7⟩
      have hm7 := (hm6.nil_then hm7).alloc (.cells #[.int .i64 off, .int .i64 wd, .int .i64 kd] 44)
      clear cb hPi
      generalize en i = ei at *
      by_cases hk : kd = 6
      · subst hk
        clear p5
        go_wp2_with fail
        go_roundw
        case rel => exact ⟨i + 1, by omega, by go_num, by rw [p7], hm7⟩
        case measure => simp [intOf]; omega
      · have hr := p5 hk
        have hk2 : (kd == 6) = false := by simpa using hk
        have hwne : (wd == 0) = false := by simp only [beq_eq_false_iff_ne]; omega
        clear p5
        go_wp2_with fail
        go_roundw
        case rel => exact ⟨i + 1, by omega, by go_num, by rw [p7], hm7⟩
        case measure => simp [intOf]; omega
    · obtain rfl : i = m := by omega
      generalize en i = ei at *
      go_wp2_with fail
      refine (awake_ok _).mono ?_
      rintro e w6 ⟨rfl, hm7⟩
      go_wp2_with fail
      go_ret
      exact ⟨rfl, (hm2.nil_then hm6).nil_then hm7⟩
end Go.Proofs.Ytlnlclaoajjcbaa
