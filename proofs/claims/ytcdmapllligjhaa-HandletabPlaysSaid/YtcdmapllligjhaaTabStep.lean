/- Handle tables: the laws' step. -/
import Derived.Test.YtcdmapllligjhaaTabWord
namespace Go.Proofs.Ytcdmapllligjhaa
open Go Go.RowKit Go.Stg

/-- A table, the definition's table, and the handles that were issued. -/
def pparts (tb : Nat) (ev : Value) (b pb : Nat) (sl : Value) (tm : Nat) (ev' : Value) (c : Nat) (gv lv : Value) (first : Int) (x : TS) (hv : Value) (hs : List Int) : List Comp :=
  [tabC tb ev b pb sl first x, rtabC tm ev' c gv lv first x, rowC hv hs.length 35 1 (hs.map (.int .u64))]
/-- Behind a step. -/
def StepPost (F : List Nat) (W : World) (tb : Nat) (ev : Value) (b pb : Nat) (sl : Value) (tm : Nat) (ev' : Value) (c : Nat) (gv lv : Value) (n : Nat) (first : Int) (m : Nat) (e : Ending) (w' : World) : Prop :=
  ∃ x' hv' hs', e = .returned (.tuple #[hv', .bool true]) ∧ Scene F W (pparts tb ev b pb sl tm ev' c gv lv first x' hv' hs') w' ∧ TInv n first x' ∧ (∀ h ∈ hs', 0 ≤ h ∧ h ≤ 18446744073709551615) ∧ hs'.length ≤ m + 1
theorem issH_in {n : Nat} {first : Int} {x : TS} (hI : TInv n first x) (hn : n ≤ 4096) (hf1 : 1 ≤ first) (hf2 : first ≤ 4294967295) (owner tag d : Int) : 0 ≤ issH first x owner tag d ∧ issH first x owner tag d ≤ 18446744073709551615 := by
  unfold issH
  by_cases hk : issOk x owner tag
  · rw [if_pos hk]
    obtain ⟨_, _, _, _, hjn, _⟩ := hI.g.pick hf1 hf2 hk.2 d
    have hg := nextG_in hI hf1 hf2 hk.2 d
    have hb := hk.1
    unfold badOT at hb
    show 0 ≤ packI _ _ _ ∧ packI _ _ _ ≤ _
    unfold packI
    omega
  · rw [if_neg hk]; omega
theorem info_hd : (Try.prog.info? 35).map (fun i => (i.zero, i.size, i.bytes)) = some (some (.int .u64 0), 1, 8) := by kernel_rfl
theorem row_sliceIn {w : World} {base n : Nat} {e : TypeId} {v : Value} {xs : List Value} (h : w.ownsRow base e 1 v n xs) : SliceIn w v xs := by
  rcases row_cases h with ⟨rfl, _, rfl⟩ | ⟨g, cap, rfl, _, hg, _, _, hat⟩
  · exact .inl ⟨rfl, rfl⟩
  · have hn : xs.length = n := by have := h.1; omega
    refine .inr ⟨g, 0, cap, by rw [hn], hg, fun j u hj => ?_⟩
    have hjl := (List.getElem?_eq_some_iff.1 hj).1
    rw [Nat.zero_add, hat j (by omega), hj]
/-- Issue of a table, and what the definition's Issue then owes. -/
theorem pair_issue {F : List Nat} {W w : World} {cs : List Comp} {n : Nat} {first : Int} {x : TS} (i : Nat) {tb b pb tm c : Nat} {ev sl ev' gv lv : Value} (h : Scene F W cs w) (hI : TInv n first x) (hn : n ≤ 4096) (hi : cs[i]? = some (tabC tb ev b pb sl first x)) (hf1 : 1 ≤ first) (hf2 : first ≤ 4294967295) (O T off len d : Int) (hd : 0 ≤ d) (hd2 : d ≤ 18446744073709551615) :
    Calls Try.prog 10 #[.pointer (some ⟨tb, 0, none⟩), .int .i64 O, .int .i64 T, .agg #[.int .i64 off, .int .i64 len], .int .u64 d] w fun e w' => ∃ (kk er : Int) (x1 : TS), e = .returned (.tuple #[.int .u64 kk, .int .i64 er]) ∧ 0 ≤ kk ∧ kk ≤ 18446744073709551615 ∧ TInv n first x1 ∧ Scene F W (cs.set i (tabC tb ev b pb sl first x1)) w' ∧
      ∀ (w2 : World) (cs2 : List Comp) (j : Nat), Scene F W cs2 w2 → cs2[j]? = some (rtabC tm ev' c gv lv first x) → Calls Try.prog 40 #[.pointer (some ⟨tm, 0, none⟩), .int .i64 O, .int .i64 T, .agg #[.int .i64 off, .int .i64 len], .int .u64 d] w2 fun e w' => e = .returned (.tuple #[.int .u64 kk, .int .i64 er]) ∧ Scene F W (cs2.set j (rtabC tm ev' c gv lv first x1)) w' := by
  refine (sc_tissue i h hI hn hi hf1 hf2 O T off len d hd hd2).mono ?_
  rintro e w' ⟨rfl, hS⟩
  obtain ⟨k0, k1⟩ := issH_in hI hn hf1 hf2 O T d
  exact ⟨_, _, _, rfl, k0, k1, hI.issue hf1 hf2 O T off len d, hS, fun w2 cs2 j h2 hj => sc_rtissue j h2 hI hn hj hf1 hf2 O T off len d hd hd2⟩
section
variable {F : List Nat} {W w : World} {tb b pb tm c n : Nat} {ev sl ev' gv lv hv : Value} {first : Int} {x : TS} {hs : List Int} (hS : Scene F W (pparts tb ev b pb sl tm ev' c gv lv first x hv hs) w) (hI : TInv n first x) (hn : n ≤ 4096) (hf1 : 1 ≤ first) (hf2 : first ≤ 4294967295)
  (hh : ∀ h ∈ hs, 0 ≤ h ∧ h ≤ 18446744073709551615) (hl : hs.length ≤ 900) (xa xb xc xd : Int) (a0 : 0 ≤ xa ∧ xa ≤ 65535) (b0 : 0 ≤ xb ∧ xb ≤ 65535) (c0 : 0 ≤ xc ∧ xc ≤ 65535) (d0 : 0 ≤ xd ∧ xd ≤ 65535)
include hS hI hn hf1 hf2 hh hl a0 b0 c0 d0
set_option maxHeartbeats 4000000 in
set_option maxRecDepth 10000 in
theorem tstep_words (hc : 4 ≤ xa % 8) :
    Calls Try.prog 18 #[.pointer (some ⟨tb, 0, none⟩), .pointer (some ⟨tm, 0, none⟩), .agg #[.int .u16 xa, .int .u16 xb, .int .u16 xc, .int .u16 xd], .int .i64 first, hv] w (StepPost F W tb ev b pb sl tm ev' c gv lv n first hs.length) := by
  have hS0 := hS.alloc (.cells #[.int .u16 xa, .int .u16 xb, .int .u16 xc, .int .u16 xd] 31 (0, 0))
  have hcq := cells_of (hS0.block 0 rfl)
  have hSH := Lib.hid hS0
  have hWd := Lib.hid fun w' (h : Scene F W (blockC w.heap.size (.cells #[.int .u16 xa, .int .u16 xb, .int .u16 xc, .int .u16 xd] 31 (0, 0)) :: pparts tb ev b pb sl tm ev' c gv lv first x hv hs) w') => word_ok xa xb xc xd first b0 c0 d0 ⟨by omega, hf2⟩ hv hs (by omega) w' ⟨h.row 3 rfl, hh⟩
  have hhH := Lib.hid hh
  have hI := Lib.hid hI
  obtain ⟨a00, a01⟩ := a0
  obtain ⟨b00, b01⟩ := b0
  obtain ⟨c00, c01⟩ := c0
  obtain ⟨d00, d01⟩ := d0
  clear hS hS0 hh
  rcases show xa % 8 = 4 ∨ xa % 8 = 5 ∨ xa % 8 = 6 ∨ xa % 8 = 7 by omega with h | h | h | h
  · go_enter Try.func18, Try.ntmps18
    go_wp2_with fail
    refine (hWd.out _ hSH.out).mono ?_
    rintro e w1 ⟨kk, rfl, ⟨k0, k1⟩, hm1⟩
    have hS1 := Lib.hid (hSH.out.then hm1)
    have hcq1 := cells_of (hS1.out.block 0 rfl)
    clear hSH hWd hcq hm1
    go_wp2_with fail
    refine (sc_tdrop 1 hS1.out hI.out hn rfl kk k0 k1).mono ?_
    rintro e w2 ⟨rfl, hS2⟩
    have hS2 := Lib.hid hS2
    clear hS1 hcq1
    go_wp2_with fail
    refine (sc_rtdrop 2 hS2.out hI.out hn rfl kk k0 k1).mono ?_
    rintro e w3 ⟨rfl, hS3⟩
    have hS3 := Lib.hid hS3
    have hee : (resE x kk == resE x kk) = true := by simp
    clear hS2
    go_wp2_with fail
    go_ret2
    exact ⟨dropT x kk, hv, hs, rfl, hS3.out.erase 0, hI.out.drop kk, hhH.out, by omega⟩
  · go_enter Try.func18, Try.ntmps18
    go_wp2_with fail
    refine (hWd.out _ hSH.out).mono ?_
    rintro e w1 ⟨kk, rfl, ⟨k0, k1⟩, hm1⟩
    have hS1 := Lib.hid (hSH.out.then hm1)
    have hcq1 := cells_of (hS1.out.block 0 rfl)
    clear hSH hWd hcq hm1
    go_wp2_with fail
    refine (sc_tdrop 1 hS1.out hI.out hn rfl kk k0 k1).mono ?_
    rintro e w2 ⟨rfl, hS2⟩
    have hS2 := Lib.hid hS2
    clear hS1 hcq1
    go_wp2_with fail
    refine (sc_rtdrop 2 hS2.out hI.out hn rfl kk k0 k1).mono ?_
    rintro e w3 ⟨rfl, hS3⟩
    have hS3 := Lib.hid hS3
    have hee : (resE x kk == resE x kk) = true := by simp
    clear hS2
    go_wp2_with fail
    go_ret2
    exact ⟨dropT x kk, hv, hs, rfl, hS3.out.erase 0, hI.out.drop kk, hhH.out, by omega⟩
  · go_enter Try.func18, Try.ntmps18
    go_wp2_with fail
    refine (hWd.out _ hSH.out).mono ?_
    rintro e w1 ⟨kk, rfl, ⟨k0, k1⟩, hm1⟩
    have hS1 := Lib.hid (hSH.out.then hm1)
    have hcq1 := cells_of (hS1.out.block 0 rfl)
    clear hSH hWd hcq hm1
    go_wp2_with fail
    refine (sc_tgive 1 hS1.out hI.out hn rfl kk k0 k1 _).mono ?_
    rintro e w2 ⟨rfl, hS2⟩
    have hS2 := Lib.hid hS2
    clear hS1 hcq1
    go_wp2_with fail
    refine (sc_rtgive 2 hS2.out hI.out hn rfl kk k0 k1 _).mono ?_
    rintro e w3 ⟨rfl, hS3⟩
    have hS3 := Lib.hid hS3
    have hee : (giveE x kk (xd % 70 - 2) == giveE x kk (xd % 70 - 2)) = true := by simp
    clear hS2
    go_wp2_with fail
    go_ret2
    exact ⟨giveT x kk (xd % 70 - 2), hv, hs, rfl, hS3.out.erase 0, hI.out.give kk _, hhH.out, by omega⟩
  · go_enter Try.func18, Try.ntmps18
    go_wp2_with fail
    refine (hWd.out _ hSH.out).mono ?_
    rintro e w1 ⟨kk, rfl, ⟨k0, k1⟩, hm1⟩
    have hS1 := Lib.hid (hSH.out.then hm1)
    have hcq1 := cells_of (hS1.out.block 0 rfl)
    clear hSH hWd hcq hm1
    go_wp2_with fail
    refine (sc_tgive 1 hS1.out hI.out hn rfl kk k0 k1 _).mono ?_
    rintro e w2 ⟨rfl, hS2⟩
    have hS2 := Lib.hid hS2
    clear hS1 hcq1
    go_wp2_with fail
    refine (sc_rtgive 2 hS2.out hI.out hn rfl kk k0 k1 _).mono ?_
    rintro e w3 ⟨rfl, hS3⟩
    have hS3 := Lib.hid hS3
    have hee : (giveE x kk (xd % 70 - 2) == giveE x kk (xd % 70 - 2)) = true := by simp
    clear hS2
    go_wp2_with fail
    go_ret2
    exact ⟨giveT x kk (xd % 70 - 2), hv, hs, rfl, hS3.out.erase 0, hI.out.give kk _, hhH.out, by omega⟩
set_option maxHeartbeats 4000000 in
set_option maxRecDepth 10000 in
theorem tstep_issue (hc : xa % 8 < 4) :
    Calls Try.prog 18 #[.pointer (some ⟨tb, 0, none⟩), .pointer (some ⟨tm, 0, none⟩), .agg #[.int .u16 xa, .int .u16 xb, .int .u16 xc, .int .u16 xd], .int .i64 first, hv] w (StepPost F W tb ev b pb sl tm ev' c gv lv n first hs.length) := by
  have hS0 := (hS.alloc (.cells #[.int .u16 xa, .int .u16 xb, .int .u16 xc, .int .u16 xd] 31 (0, 0))).alloc (.cells #[.int .i64 xd, .int .i64 16] 33 (0, 0))
  have hsz : (w.alloc (.cells #[.int .u16 xa, .int .u16 xb, .int .u16 xc, .int .u16 xd] 31 (0, 0))).heap.size = w.heap.size + 1 := by simp
  rw [hsz] at hS0
  have hcq := cells_of (hS0.block 1 rfl)
  have hce := cells_of (hS0.block 0 rfl)
  have hSH := Lib.hid hS0
  have hhH := Lib.hid hh
  have hI := Lib.hid hI
  obtain ⟨a00, a01⟩ := a0
  obtain ⟨b00, b01⟩ := b0
  obtain ⟨c00, c01⟩ := c0
  obtain ⟨d00, d01⟩ := d0
  clear hS hS0 hh hsz
  rcases show xa % 8 = 0 ∨ xa % 8 = 1 ∨ xa % 8 = 2 ∨ xa % 8 = 3 by omega with h | h | h | h
  · by_cases h14 : xd % 16 < 14
    · go_enter Try.func18, Try.ntmps18
      go_wp2_with fail
      have k1 := GW.cells (S := []) (hSH.out.block 1 rfl) (by simp)
      refine wp_region_pure (by kernel_rfl) (by kernel_rfl) ?_
      refine stage_quiet 24 (by kernel_rfl) ?_
      simp only [List.take_succ_cons, List.take_zero, List.drop_succ_cons, List.drop_zero]
      repeat (go_big_quiet_step (fail))
      refine wpQuiet_nil ?_
      refine stage_nil fun w2 hm2 => ?_
      have hS2 := Lib.hid (hSH.out.then hm2)
      have hcq2 := cells_of (hS2.out.block 1 rfl)
      have hce2 := cells_of (hS2.out.block 0 rfl)
      clear k1 hSH hm2 hcq hce
      go_wp2_with fail
      have k2 := GW.cells (S := []) (hS2.out.block 1 rfl) (by simp)
      refine wp_region_pure (by kernel_rfl) (by kernel_rfl) ?_
      refine stage_quiet 12 (by kernel_rfl) ?_
      simp only [List.take_succ_cons, List.take_zero, List.drop_succ_cons, List.drop_zero]
      repeat (go_big_quiet_step (fail))
      refine wpQuiet_nil ?_
      refine stage_nil fun w3 hm3 => ?_
      have hS3 := Lib.hid (hS2.out.then hm3)
      have hcq3 := cells_of (hS3.out.block 1 rfl)
      have hce3 := cells_of (hS3.out.block 0 rfl)
      clear k2 hS2 hm3 hcq2 hce2
      go_wp2_with fail
      refine (pair_issue (tm := tm) (ev' := ev') (c := c) (gv := gv) (lv := lv) 2 (hS3).out hI.out hn rfl hf1 hf2 _ _ xd 16 xd d00 (by omega)).mono ?_
      rintro e w4 ⟨kk, er, x1, rfl, k0, k1, hI1, hS4, hR4⟩
      have hcq4 := cells_of (hS4.block 1 rfl)
      have hce4 := cells_of (hS4.block 0 rfl)
      have hS4 := Lib.hid hS4
      have hR4 := Lib.hid hR4
      have hI1 := Lib.hid hI1
      clear hS3
      go_wp2_with fail
      refine (hR4.out _ _ 3 hS4.out rfl).mono ?_
      rintro e w5 ⟨rfl, hS5⟩
      have hS5 := Lib.hid hS5
      have hkk : (kk == kk) = true := by simp
      have hee : (er == er) = true := by simp
      clear hS4 hR4 hcq4 hce4
      by_cases hz : er = 0
      · subst hz
        have hown := Lib.hid (World.ownsRow_made (base := 0) (e := 35) (size := 1) w5 #[] 0 (Nat.zero_le _) (Nat.zero_le _) rfl)
        have hin := Lib.hid ((row_sliceIn (hS5.out.row 4 rfl)).mod ((Mod.refl [] w5).alloc (.cells #[] 35 (0, 0))))
        obtain ⟨i1, hi1, hy0, hy1, hy2⟩ := info_parts info_hd
        have hb1 : hs.length + 1 ≤ maxLen := by unfold maxLen; omega
        have hb2 : (hs.length + 1) * 8 ≤ 140737488355328 := by omega
        go_wp2_with (first | (at_builtin; refine wpList_append_in _ rfl _ _ 28 rfl 35 i1 (.int .u64 0) 8 Try.underlying28 hi1 hy0 hy1 hy2 rfl (.slice (some ⟨w5.heap.size, 0, none⟩) 0 0) 0 [] rfl hown.out hv _ rfl hin.out (by simp [Value.oneCell']) (by unfold maxLen; simp; omega) (by simp; omega) ?_; intro v1 w6 hown1 hgrow1 hfr1; simp only [Nat.zero_add, List.nil_append, List.length_map] at hown1; have hown1H := Lib.hid hown1; have hgrow1H := Lib.hid hgrow1; have hfr1H := Lib.hid hfr1; clear hown1 hgrow1 hfr1) | (at_builtin; refine wpList_append_row _ rfl _ _ 28 rfl 35 i1 (.int .u64 0) 1 8 Try.underlying28 hi1 hy0 hy1 hy2 rfl (by decide) v1 hs.length _ rfl (hown1H.out.alloc _) ⟨w6.heap.size, 0, none⟩ 1 1 [.int .u64 kk] rfl rfl (cells1 _ _ _) (by simp [Value.oneCell']) hb1 hb2 ?_; intro v2 w7 hown2 hgrow2 hfr2; obtain ⟨g7, c7, rfl, _, _⟩ := row_pos hown2 (by omega); have hown2H := Lib.hid hown2; have hgrow2H := Lib.hid hgrow2; have hfr2H := Lib.hid hfr2; clear hown2 hgrow2 hfr2))
        go_ret2
        have f1 : ∀ y, v1.ownBlock = some y → w5.heap.size ≤ y := fun y hy => by
          rcases hfr1H.out y hy with h | h <;> simp [Value.ownBlock] at h <;> omega
        have s1 : Mod [] w5 w6 := ((Mod.refl [] w5).alloc _).grown hgrow1H.out (fun k hk => .inr (by simp [Value.ownBlock] at hk; omega))
        have s2 : Mod [] w5 w7 := (s1.alloc _).grown hgrow2H.out (fun k hk => .inr (f1 k hk))
        obtain ⟨fp, _, hk'⟩ := hS5.out.part 4 rfl
        have hS7 := hk' w7 _ (rowC (.slice (some ⟨g7, 0, none⟩) (hs.length + 1) c7) (hs ++ [kk]).length 35 1 ((hs ++ [kk]).map (.int .u64))) ⟨by rw [List.length_append, List.map_append]; exact hown2H.out, rfl⟩ (s2.mono (by simp)) (fun y hy => .inr (by
          have hy' : (Value.slice (some ⟨g7, 0, none⟩) (hs.length + 1) c7).ownBlock = some y := by simpa using hy
          rcases hfr2H.out y hy' with h | h
          · exact f1 y h
          · have := s1.size; simp at h; omega))
        refine ⟨x1, _, hs ++ [kk], rfl, (hS7.erase 0).erase 0, hI1.out, fun h hh => ?_, by simp⟩
        rcases List.mem_append.1 hh with hh | hh
        · exact hhH.out h hh
        · rw [List.mem_singleton.1 hh]; exact ⟨k0, k1⟩
      · have hz2 : (er == 0) = false := by simp only [beq_eq_false_iff_ne]; exact hz
        clear hz
        go_wp2_with fail
        go_ret2
        exact ⟨x1, hv, hs, rfl, (hS5.out.erase 0).erase 0, hI1.out, hhH.out, by omega⟩
    · go_enter Try.func18, Try.ntmps18
      go_wp2_with fail
      have k1 := GW.cells (S := []) (hSH.out.block 1 rfl) (by simp)
      refine wp_region_pure (by kernel_rfl) (by kernel_rfl) ?_
      refine stage_quiet 24 (by kernel_rfl) ?_
      simp only [List.take_succ_cons, List.take_zero, List.drop_succ_cons, List.drop_zero]
      repeat (go_big_quiet_step (fail))
      refine wpQuiet_nil ?_
      refine stage_nil fun w2 hm2 => ?_
      have hS2 := Lib.hid (hSH.out.then hm2)
      have hcq2 := cells_of (hS2.out.block 1 rfl)
      have hce2 := cells_of (hS2.out.block 0 rfl)
      clear k1 hSH hm2 hcq hce
      go_wp2_with fail
      refine (pair_issue (tm := tm) (ev' := ev') (c := c) (gv := gv) (lv := lv) 2 (hS2).out hI.out hn rfl hf1 hf2 _ _ xd 16 xd d00 (by omega)).mono ?_
      rintro e w4 ⟨kk, er, x1, rfl, k0, k1, hI1, hS4, hR4⟩
      have hcq4 := cells_of (hS4.block 1 rfl)
      have hce4 := cells_of (hS4.block 0 rfl)
      have hS4 := Lib.hid hS4
      have hR4 := Lib.hid hR4
      have hI1 := Lib.hid hI1
      clear hS2
      go_wp2_with fail
      refine (hR4.out _ _ 3 hS4.out rfl).mono ?_
      rintro e w5 ⟨rfl, hS5⟩
      have hS5 := Lib.hid hS5
      have hkk : (kk == kk) = true := by simp
      have hee : (er == er) = true := by simp
      clear hS4 hR4 hcq4 hce4
      by_cases hz : er = 0
      · subst hz
        have hown := Lib.hid (World.ownsRow_made (base := 0) (e := 35) (size := 1) w5 #[] 0 (Nat.zero_le _) (Nat.zero_le _) rfl)
        have hin := Lib.hid ((row_sliceIn (hS5.out.row 4 rfl)).mod ((Mod.refl [] w5).alloc (.cells #[] 35 (0, 0))))
        obtain ⟨i1, hi1, hy0, hy1, hy2⟩ := info_parts info_hd
        have hb1 : hs.length + 1 ≤ maxLen := by unfold maxLen; omega
        have hb2 : (hs.length + 1) * 8 ≤ 140737488355328 := by omega
        go_wp2_with (first | (at_builtin; refine wpList_append_in _ rfl _ _ 28 rfl 35 i1 (.int .u64 0) 8 Try.underlying28 hi1 hy0 hy1 hy2 rfl (.slice (some ⟨w5.heap.size, 0, none⟩) 0 0) 0 [] rfl hown.out hv _ rfl hin.out (by simp [Value.oneCell']) (by unfold maxLen; simp; omega) (by simp; omega) ?_; intro v1 w6 hown1 hgrow1 hfr1; simp only [Nat.zero_add, List.nil_append, List.length_map] at hown1; have hown1H := Lib.hid hown1; have hgrow1H := Lib.hid hgrow1; have hfr1H := Lib.hid hfr1; clear hown1 hgrow1 hfr1) | (at_builtin; refine wpList_append_row _ rfl _ _ 28 rfl 35 i1 (.int .u64 0) 1 8 Try.underlying28 hi1 hy0 hy1 hy2 rfl (by decide) v1 hs.length _ rfl (hown1H.out.alloc _) ⟨w6.heap.size, 0, none⟩ 1 1 [.int .u64 kk] rfl rfl (cells1 _ _ _) (by simp [Value.oneCell']) hb1 hb2 ?_; intro v2 w7 hown2 hgrow2 hfr2; obtain ⟨g7, c7, rfl, _, _⟩ := row_pos hown2 (by omega); have hown2H := Lib.hid hown2; have hgrow2H := Lib.hid hgrow2; have hfr2H := Lib.hid hfr2; clear hown2 hgrow2 hfr2))
        go_ret2
        have f1 : ∀ y, v1.ownBlock = some y → w5.heap.size ≤ y := fun y hy => by
          rcases hfr1H.out y hy with h | h <;> simp [Value.ownBlock] at h <;> omega
        have s1 : Mod [] w5 w6 := ((Mod.refl [] w5).alloc _).grown hgrow1H.out (fun k hk => .inr (by simp [Value.ownBlock] at hk; omega))
        have s2 : Mod [] w5 w7 := (s1.alloc _).grown hgrow2H.out (fun k hk => .inr (f1 k hk))
        obtain ⟨fp, _, hk'⟩ := hS5.out.part 4 rfl
        have hS7 := hk' w7 _ (rowC (.slice (some ⟨g7, 0, none⟩) (hs.length + 1) c7) (hs ++ [kk]).length 35 1 ((hs ++ [kk]).map (.int .u64))) ⟨by rw [List.length_append, List.map_append]; exact hown2H.out, rfl⟩ (s2.mono (by simp)) (fun y hy => .inr (by
          have hy' : (Value.slice (some ⟨g7, 0, none⟩) (hs.length + 1) c7).ownBlock = some y := by simpa using hy
          rcases hfr2H.out y hy' with h | h
          · exact f1 y h
          · have := s1.size; simp at h; omega))
        refine ⟨x1, _, hs ++ [kk], rfl, (hS7.erase 0).erase 0, hI1.out, fun h hh => ?_, by simp⟩
        rcases List.mem_append.1 hh with hh | hh
        · exact hhH.out h hh
        · rw [List.mem_singleton.1 hh]; exact ⟨k0, k1⟩
      · have hz2 : (er == 0) = false := by simp only [beq_eq_false_iff_ne]; exact hz
        clear hz
        go_wp2_with fail
        go_ret2
        exact ⟨x1, hv, hs, rfl, (hS5.out.erase 0).erase 0, hI1.out, hhH.out, by omega⟩
  · by_cases h14 : xd % 16 < 14
    · go_enter Try.func18, Try.ntmps18
      go_wp2_with fail
      have k1 := GW.cells (S := []) (hSH.out.block 1 rfl) (by simp)
      refine wp_region_pure (by kernel_rfl) (by kernel_rfl) ?_
      refine stage_quiet 24 (by kernel_rfl) ?_
      simp only [List.take_succ_cons, List.take_zero, List.drop_succ_cons, List.drop_zero]
      repeat (go_big_quiet_step (fail))
      refine wpQuiet_nil ?_
      refine stage_nil fun w2 hm2 => ?_
      have hS2 := Lib.hid (hSH.out.then hm2)
      have hcq2 := cells_of (hS2.out.block 1 rfl)
      have hce2 := cells_of (hS2.out.block 0 rfl)
      clear k1 hSH hm2 hcq hce
      go_wp2_with fail
      have k2 := GW.cells (S := []) (hS2.out.block 1 rfl) (by simp)
      refine wp_region_pure (by kernel_rfl) (by kernel_rfl) ?_
      refine stage_quiet 12 (by kernel_rfl) ?_
      simp only [List.take_succ_cons, List.take_zero, List.drop_succ_cons, List.drop_zero]
      repeat (go_big_quiet_step (fail))
      refine wpQuiet_nil ?_
      refine stage_nil fun w3 hm3 => ?_
      have hS3 := Lib.hid (hS2.out.then hm3)
      have hcq3 := cells_of (hS3.out.block 1 rfl)
      have hce3 := cells_of (hS3.out.block 0 rfl)
      clear k2 hS2 hm3 hcq2 hce2
      go_wp2_with fail
      refine (pair_issue (tm := tm) (ev' := ev') (c := c) (gv := gv) (lv := lv) 2 (hS3).out hI.out hn rfl hf1 hf2 _ _ xd 16 xd d00 (by omega)).mono ?_
      rintro e w4 ⟨kk, er, x1, rfl, k0, k1, hI1, hS4, hR4⟩
      have hcq4 := cells_of (hS4.block 1 rfl)
      have hce4 := cells_of (hS4.block 0 rfl)
      have hS4 := Lib.hid hS4
      have hR4 := Lib.hid hR4
      have hI1 := Lib.hid hI1
      clear hS3
      go_wp2_with fail
      refine (hR4.out _ _ 3 hS4.out rfl).mono ?_
      rintro e w5 ⟨rfl, hS5⟩
      have hS5 := Lib.hid hS5
      have hkk : (kk == kk) = true := by simp
      have hee : (er == er) = true := by simp
      clear hS4 hR4 hcq4 hce4
      by_cases hz : er = 0
      · subst hz
        have hown := Lib.hid (World.ownsRow_made (base := 0) (e := 35) (size := 1) w5 #[] 0 (Nat.zero_le _) (Nat.zero_le _) rfl)
        have hin := Lib.hid ((row_sliceIn (hS5.out.row 4 rfl)).mod ((Mod.refl [] w5).alloc (.cells #[] 35 (0, 0))))
        obtain ⟨i1, hi1, hy0, hy1, hy2⟩ := info_parts info_hd
        have hb1 : hs.length + 1 ≤ maxLen := by unfold maxLen; omega
        have hb2 : (hs.length + 1) * 8 ≤ 140737488355328 := by omega
        go_wp2_with (first | (at_builtin; refine wpList_append_in _ rfl _ _ 28 rfl 35 i1 (.int .u64 0) 8 Try.underlying28 hi1 hy0 hy1 hy2 rfl (.slice (some ⟨w5.heap.size, 0, none⟩) 0 0) 0 [] rfl hown.out hv _ rfl hin.out (by simp [Value.oneCell']) (by unfold maxLen; simp; omega) (by simp; omega) ?_; intro v1 w6 hown1 hgrow1 hfr1; simp only [Nat.zero_add, List.nil_append, List.length_map] at hown1; have hown1H := Lib.hid hown1; have hgrow1H := Lib.hid hgrow1; have hfr1H := Lib.hid hfr1; clear hown1 hgrow1 hfr1) | (at_builtin; refine wpList_append_row _ rfl _ _ 28 rfl 35 i1 (.int .u64 0) 1 8 Try.underlying28 hi1 hy0 hy1 hy2 rfl (by decide) v1 hs.length _ rfl (hown1H.out.alloc _) ⟨w6.heap.size, 0, none⟩ 1 1 [.int .u64 kk] rfl rfl (cells1 _ _ _) (by simp [Value.oneCell']) hb1 hb2 ?_; intro v2 w7 hown2 hgrow2 hfr2; obtain ⟨g7, c7, rfl, _, _⟩ := row_pos hown2 (by omega); have hown2H := Lib.hid hown2; have hgrow2H := Lib.hid hgrow2; have hfr2H := Lib.hid hfr2; clear hown2 hgrow2 hfr2))
        go_ret2
        have f1 : ∀ y, v1.ownBlock = some y → w5.heap.size ≤ y := fun y hy => by
          rcases hfr1H.out y hy with h | h <;> simp [Value.ownBlock] at h <;> omega
        have s1 : Mod [] w5 w6 := ((Mod.refl [] w5).alloc _).grown hgrow1H.out (fun k hk => .inr (by simp [Value.ownBlock] at hk; omega))
        have s2 : Mod [] w5 w7 := (s1.alloc _).grown hgrow2H.out (fun k hk => .inr (f1 k hk))
        obtain ⟨fp, _, hk'⟩ := hS5.out.part 4 rfl
        have hS7 := hk' w7 _ (rowC (.slice (some ⟨g7, 0, none⟩) (hs.length + 1) c7) (hs ++ [kk]).length 35 1 ((hs ++ [kk]).map (.int .u64))) ⟨by rw [List.length_append, List.map_append]; exact hown2H.out, rfl⟩ (s2.mono (by simp)) (fun y hy => .inr (by
          have hy' : (Value.slice (some ⟨g7, 0, none⟩) (hs.length + 1) c7).ownBlock = some y := by simpa using hy
          rcases hfr2H.out y hy' with h | h
          · exact f1 y h
          · have := s1.size; simp at h; omega))
        refine ⟨x1, _, hs ++ [kk], rfl, (hS7.erase 0).erase 0, hI1.out, fun h hh => ?_, by simp⟩
        rcases List.mem_append.1 hh with hh | hh
        · exact hhH.out h hh
        · rw [List.mem_singleton.1 hh]; exact ⟨k0, k1⟩
      · have hz2 : (er == 0) = false := by simp only [beq_eq_false_iff_ne]; exact hz
        clear hz
        go_wp2_with fail
        go_ret2
        exact ⟨x1, hv, hs, rfl, (hS5.out.erase 0).erase 0, hI1.out, hhH.out, by omega⟩
    · go_enter Try.func18, Try.ntmps18
      go_wp2_with fail
      have k1 := GW.cells (S := []) (hSH.out.block 1 rfl) (by simp)
      refine wp_region_pure (by kernel_rfl) (by kernel_rfl) ?_
      refine stage_quiet 24 (by kernel_rfl) ?_
      simp only [List.take_succ_cons, List.take_zero, List.drop_succ_cons, List.drop_zero]
      repeat (go_big_quiet_step (fail))
      refine wpQuiet_nil ?_
      refine stage_nil fun w2 hm2 => ?_
      have hS2 := Lib.hid (hSH.out.then hm2)
      have hcq2 := cells_of (hS2.out.block 1 rfl)
      have hce2 := cells_of (hS2.out.block 0 rfl)
      clear k1 hSH hm2 hcq hce
      go_wp2_with fail
      refine (pair_issue (tm := tm) (ev' := ev') (c := c) (gv := gv) (lv := lv) 2 (hS2).out hI.out hn rfl hf1 hf2 _ _ xd 16 xd d00 (by omega)).mono ?_
      rintro e w4 ⟨kk, er, x1, rfl, k0, k1, hI1, hS4, hR4⟩
      have hcq4 := cells_of (hS4.block 1 rfl)
      have hce4 := cells_of (hS4.block 0 rfl)
      have hS4 := Lib.hid hS4
      have hR4 := Lib.hid hR4
      have hI1 := Lib.hid hI1
      clear hS2
      go_wp2_with fail
      refine (hR4.out _ _ 3 hS4.out rfl).mono ?_
      rintro e w5 ⟨rfl, hS5⟩
      have hS5 := Lib.hid hS5
      have hkk : (kk == kk) = true := by simp
      have hee : (er == er) = true := by simp
      clear hS4 hR4 hcq4 hce4
      by_cases hz : er = 0
      · subst hz
        have hown := Lib.hid (World.ownsRow_made (base := 0) (e := 35) (size := 1) w5 #[] 0 (Nat.zero_le _) (Nat.zero_le _) rfl)
        have hin := Lib.hid ((row_sliceIn (hS5.out.row 4 rfl)).mod ((Mod.refl [] w5).alloc (.cells #[] 35 (0, 0))))
        obtain ⟨i1, hi1, hy0, hy1, hy2⟩ := info_parts info_hd
        have hb1 : hs.length + 1 ≤ maxLen := by unfold maxLen; omega
        have hb2 : (hs.length + 1) * 8 ≤ 140737488355328 := by omega
        go_wp2_with (first | (at_builtin; refine wpList_append_in _ rfl _ _ 28 rfl 35 i1 (.int .u64 0) 8 Try.underlying28 hi1 hy0 hy1 hy2 rfl (.slice (some ⟨w5.heap.size, 0, none⟩) 0 0) 0 [] rfl hown.out hv _ rfl hin.out (by simp [Value.oneCell']) (by unfold maxLen; simp; omega) (by simp; omega) ?_; intro v1 w6 hown1 hgrow1 hfr1; simp only [Nat.zero_add, List.nil_append, List.length_map] at hown1; have hown1H := Lib.hid hown1; have hgrow1H := Lib.hid hgrow1; have hfr1H := Lib.hid hfr1; clear hown1 hgrow1 hfr1) | (at_builtin; refine wpList_append_row _ rfl _ _ 28 rfl 35 i1 (.int .u64 0) 1 8 Try.underlying28 hi1 hy0 hy1 hy2 rfl (by decide) v1 hs.length _ rfl (hown1H.out.alloc _) ⟨w6.heap.size, 0, none⟩ 1 1 [.int .u64 kk] rfl rfl (cells1 _ _ _) (by simp [Value.oneCell']) hb1 hb2 ?_; intro v2 w7 hown2 hgrow2 hfr2; obtain ⟨g7, c7, rfl, _, _⟩ := row_pos hown2 (by omega); have hown2H := Lib.hid hown2; have hgrow2H := Lib.hid hgrow2; have hfr2H := Lib.hid hfr2; clear hown2 hgrow2 hfr2))
        go_ret2
        have f1 : ∀ y, v1.ownBlock = some y → w5.heap.size ≤ y := fun y hy => by
          rcases hfr1H.out y hy with h | h <;> simp [Value.ownBlock] at h <;> omega
        have s1 : Mod [] w5 w6 := ((Mod.refl [] w5).alloc _).grown hgrow1H.out (fun k hk => .inr (by simp [Value.ownBlock] at hk; omega))
        have s2 : Mod [] w5 w7 := (s1.alloc _).grown hgrow2H.out (fun k hk => .inr (f1 k hk))
        obtain ⟨fp, _, hk'⟩ := hS5.out.part 4 rfl
        have hS7 := hk' w7 _ (rowC (.slice (some ⟨g7, 0, none⟩) (hs.length + 1) c7) (hs ++ [kk]).length 35 1 ((hs ++ [kk]).map (.int .u64))) ⟨by rw [List.length_append, List.map_append]; exact hown2H.out, rfl⟩ (s2.mono (by simp)) (fun y hy => .inr (by
          have hy' : (Value.slice (some ⟨g7, 0, none⟩) (hs.length + 1) c7).ownBlock = some y := by simpa using hy
          rcases hfr2H.out y hy' with h | h
          · exact f1 y h
          · have := s1.size; simp at h; omega))
        refine ⟨x1, _, hs ++ [kk], rfl, (hS7.erase 0).erase 0, hI1.out, fun h hh => ?_, by simp⟩
        rcases List.mem_append.1 hh with hh | hh
        · exact hhH.out h hh
        · rw [List.mem_singleton.1 hh]; exact ⟨k0, k1⟩
      · have hz2 : (er == 0) = false := by simp only [beq_eq_false_iff_ne]; exact hz
        clear hz
        go_wp2_with fail
        go_ret2
        exact ⟨x1, hv, hs, rfl, (hS5.out.erase 0).erase 0, hI1.out, hhH.out, by omega⟩
  · by_cases h14 : xd % 16 < 14
    · go_enter Try.func18, Try.ntmps18
      go_wp2_with fail
      have k1 := GW.cells (S := []) (hSH.out.block 1 rfl) (by simp)
      refine wp_region_pure (by kernel_rfl) (by kernel_rfl) ?_
      refine stage_quiet 24 (by kernel_rfl) ?_
      simp only [List.take_succ_cons, List.take_zero, List.drop_succ_cons, List.drop_zero]
      repeat (go_big_quiet_step (fail))
      refine wpQuiet_nil ?_
      refine stage_nil fun w2 hm2 => ?_
      have hS2 := Lib.hid (hSH.out.then hm2)
      have hcq2 := cells_of (hS2.out.block 1 rfl)
      have hce2 := cells_of (hS2.out.block 0 rfl)
      clear k1 hSH hm2 hcq hce
      go_wp2_with fail
      have k2 := GW.cells (S := []) (hS2.out.block 1 rfl) (by simp)
      refine wp_region_pure (by kernel_rfl) (by kernel_rfl) ?_
      refine stage_quiet 12 (by kernel_rfl) ?_
      simp only [List.take_succ_cons, List.take_zero, List.drop_succ_cons, List.drop_zero]
      repeat (go_big_quiet_step (fail))
      refine wpQuiet_nil ?_
      refine stage_nil fun w3 hm3 => ?_
      have hS3 := Lib.hid (hS2.out.then hm3)
      have hcq3 := cells_of (hS3.out.block 1 rfl)
      have hce3 := cells_of (hS3.out.block 0 rfl)
      clear k2 hS2 hm3 hcq2 hce2
      go_wp2_with fail
      refine (pair_issue (tm := tm) (ev' := ev') (c := c) (gv := gv) (lv := lv) 2 (hS3).out hI.out hn rfl hf1 hf2 _ _ xd 16 xd d00 (by omega)).mono ?_
      rintro e w4 ⟨kk, er, x1, rfl, k0, k1, hI1, hS4, hR4⟩
      have hcq4 := cells_of (hS4.block 1 rfl)
      have hce4 := cells_of (hS4.block 0 rfl)
      have hS4 := Lib.hid hS4
      have hR4 := Lib.hid hR4
      have hI1 := Lib.hid hI1
      clear hS3
      go_wp2_with fail
      refine (hR4.out _ _ 3 hS4.out rfl).mono ?_
      rintro e w5 ⟨rfl, hS5⟩
      have hS5 := Lib.hid hS5
      have hkk : (kk == kk) = true := by simp
      have hee : (er == er) = true := by simp
      clear hS4 hR4 hcq4 hce4
      by_cases hz : er = 0
      · subst hz
        have hown := Lib.hid (World.ownsRow_made (base := 0) (e := 35) (size := 1) w5 #[] 0 (Nat.zero_le _) (Nat.zero_le _) rfl)
        have hin := Lib.hid ((row_sliceIn (hS5.out.row 4 rfl)).mod ((Mod.refl [] w5).alloc (.cells #[] 35 (0, 0))))
        obtain ⟨i1, hi1, hy0, hy1, hy2⟩ := info_parts info_hd
        have hb1 : hs.length + 1 ≤ maxLen := by unfold maxLen; omega
        have hb2 : (hs.length + 1) * 8 ≤ 140737488355328 := by omega
        go_wp2_with (first | (at_builtin; refine wpList_append_in _ rfl _ _ 28 rfl 35 i1 (.int .u64 0) 8 Try.underlying28 hi1 hy0 hy1 hy2 rfl (.slice (some ⟨w5.heap.size, 0, none⟩) 0 0) 0 [] rfl hown.out hv _ rfl hin.out (by simp [Value.oneCell']) (by unfold maxLen; simp; omega) (by simp; omega) ?_; intro v1 w6 hown1 hgrow1 hfr1; simp only [Nat.zero_add, List.nil_append, List.length_map] at hown1; have hown1H := Lib.hid hown1; have hgrow1H := Lib.hid hgrow1; have hfr1H := Lib.hid hfr1; clear hown1 hgrow1 hfr1) | (at_builtin; refine wpList_append_row _ rfl _ _ 28 rfl 35 i1 (.int .u64 0) 1 8 Try.underlying28 hi1 hy0 hy1 hy2 rfl (by decide) v1 hs.length _ rfl (hown1H.out.alloc _) ⟨w6.heap.size, 0, none⟩ 1 1 [.int .u64 kk] rfl rfl (cells1 _ _ _) (by simp [Value.oneCell']) hb1 hb2 ?_; intro v2 w7 hown2 hgrow2 hfr2; obtain ⟨g7, c7, rfl, _, _⟩ := row_pos hown2 (by omega); have hown2H := Lib.hid hown2; have hgrow2H := Lib.hid hgrow2; have hfr2H := Lib.hid hfr2; clear hown2 hgrow2 hfr2))
        go_ret2
        have f1 : ∀ y, v1.ownBlock = some y → w5.heap.size ≤ y := fun y hy => by
          rcases hfr1H.out y hy with h | h <;> simp [Value.ownBlock] at h <;> omega
        have s1 : Mod [] w5 w6 := ((Mod.refl [] w5).alloc _).grown hgrow1H.out (fun k hk => .inr (by simp [Value.ownBlock] at hk; omega))
        have s2 : Mod [] w5 w7 := (s1.alloc _).grown hgrow2H.out (fun k hk => .inr (f1 k hk))
        obtain ⟨fp, _, hk'⟩ := hS5.out.part 4 rfl
        have hS7 := hk' w7 _ (rowC (.slice (some ⟨g7, 0, none⟩) (hs.length + 1) c7) (hs ++ [kk]).length 35 1 ((hs ++ [kk]).map (.int .u64))) ⟨by rw [List.length_append, List.map_append]; exact hown2H.out, rfl⟩ (s2.mono (by simp)) (fun y hy => .inr (by
          have hy' : (Value.slice (some ⟨g7, 0, none⟩) (hs.length + 1) c7).ownBlock = some y := by simpa using hy
          rcases hfr2H.out y hy' with h | h
          · exact f1 y h
          · have := s1.size; simp at h; omega))
        refine ⟨x1, _, hs ++ [kk], rfl, (hS7.erase 0).erase 0, hI1.out, fun h hh => ?_, by simp⟩
        rcases List.mem_append.1 hh with hh | hh
        · exact hhH.out h hh
        · rw [List.mem_singleton.1 hh]; exact ⟨k0, k1⟩
      · have hz2 : (er == 0) = false := by simp only [beq_eq_false_iff_ne]; exact hz
        clear hz
        go_wp2_with fail
        go_ret2
        exact ⟨x1, hv, hs, rfl, (hS5.out.erase 0).erase 0, hI1.out, hhH.out, by omega⟩
    · go_enter Try.func18, Try.ntmps18
      go_wp2_with fail
      have k1 := GW.cells (S := []) (hSH.out.block 1 rfl) (by simp)
      refine wp_region_pure (by kernel_rfl) (by kernel_rfl) ?_
      refine stage_quiet 24 (by kernel_rfl) ?_
      simp only [List.take_succ_cons, List.take_zero, List.drop_succ_cons, List.drop_zero]
      repeat (go_big_quiet_step (fail))
      refine wpQuiet_nil ?_
      refine stage_nil fun w2 hm2 => ?_
      have hS2 := Lib.hid (hSH.out.then hm2)
      have hcq2 := cells_of (hS2.out.block 1 rfl)
      have hce2 := cells_of (hS2.out.block 0 rfl)
      clear k1 hSH hm2 hcq hce
      go_wp2_with fail
      refine (pair_issue (tm := tm) (ev' := ev') (c := c) (gv := gv) (lv := lv) 2 (hS2).out hI.out hn rfl hf1 hf2 _ _ xd 16 xd d00 (by omega)).mono ?_
      rintro e w4 ⟨kk, er, x1, rfl, k0, k1, hI1, hS4, hR4⟩
      have hcq4 := cells_of (hS4.block 1 rfl)
      have hce4 := cells_of (hS4.block 0 rfl)
      have hS4 := Lib.hid hS4
      have hR4 := Lib.hid hR4
      have hI1 := Lib.hid hI1
      clear hS2
      go_wp2_with fail
      refine (hR4.out _ _ 3 hS4.out rfl).mono ?_
      rintro e w5 ⟨rfl, hS5⟩
      have hS5 := Lib.hid hS5
      have hkk : (kk == kk) = true := by simp
      have hee : (er == er) = true := by simp
      clear hS4 hR4 hcq4 hce4
      by_cases hz : er = 0
      · subst hz
        have hown := Lib.hid (World.ownsRow_made (base := 0) (e := 35) (size := 1) w5 #[] 0 (Nat.zero_le _) (Nat.zero_le _) rfl)
        have hin := Lib.hid ((row_sliceIn (hS5.out.row 4 rfl)).mod ((Mod.refl [] w5).alloc (.cells #[] 35 (0, 0))))
        obtain ⟨i1, hi1, hy0, hy1, hy2⟩ := info_parts info_hd
        have hb1 : hs.length + 1 ≤ maxLen := by unfold maxLen; omega
        have hb2 : (hs.length + 1) * 8 ≤ 140737488355328 := by omega
        go_wp2_with (first | (at_builtin; refine wpList_append_in _ rfl _ _ 28 rfl 35 i1 (.int .u64 0) 8 Try.underlying28 hi1 hy0 hy1 hy2 rfl (.slice (some ⟨w5.heap.size, 0, none⟩) 0 0) 0 [] rfl hown.out hv _ rfl hin.out (by simp [Value.oneCell']) (by unfold maxLen; simp; omega) (by simp; omega) ?_; intro v1 w6 hown1 hgrow1 hfr1; simp only [Nat.zero_add, List.nil_append, List.length_map] at hown1; have hown1H := Lib.hid hown1; have hgrow1H := Lib.hid hgrow1; have hfr1H := Lib.hid hfr1; clear hown1 hgrow1 hfr1) | (at_builtin; refine wpList_append_row _ rfl _ _ 28 rfl 35 i1 (.int .u64 0) 1 8 Try.underlying28 hi1 hy0 hy1 hy2 rfl (by decide) v1 hs.length _ rfl (hown1H.out.alloc _) ⟨w6.heap.size, 0, none⟩ 1 1 [.int .u64 kk] rfl rfl (cells1 _ _ _) (by simp [Value.oneCell']) hb1 hb2 ?_; intro v2 w7 hown2 hgrow2 hfr2; obtain ⟨g7, c7, rfl, _, _⟩ := row_pos hown2 (by omega); have hown2H := Lib.hid hown2; have hgrow2H := Lib.hid hgrow2; have hfr2H := Lib.hid hfr2; clear hown2 hgrow2 hfr2))
        go_ret2
        have f1 : ∀ y, v1.ownBlock = some y → w5.heap.size ≤ y := fun y hy => by
          rcases hfr1H.out y hy with h | h <;> simp [Value.ownBlock] at h <;> omega
        have s1 : Mod [] w5 w6 := ((Mod.refl [] w5).alloc _).grown hgrow1H.out (fun k hk => .inr (by simp [Value.ownBlock] at hk; omega))
        have s2 : Mod [] w5 w7 := (s1.alloc _).grown hgrow2H.out (fun k hk => .inr (f1 k hk))
        obtain ⟨fp, _, hk'⟩ := hS5.out.part 4 rfl
        have hS7 := hk' w7 _ (rowC (.slice (some ⟨g7, 0, none⟩) (hs.length + 1) c7) (hs ++ [kk]).length 35 1 ((hs ++ [kk]).map (.int .u64))) ⟨by rw [List.length_append, List.map_append]; exact hown2H.out, rfl⟩ (s2.mono (by simp)) (fun y hy => .inr (by
          have hy' : (Value.slice (some ⟨g7, 0, none⟩) (hs.length + 1) c7).ownBlock = some y := by simpa using hy
          rcases hfr2H.out y hy' with h | h
          · exact f1 y h
          · have := s1.size; simp at h; omega))
        refine ⟨x1, _, hs ++ [kk], rfl, (hS7.erase 0).erase 0, hI1.out, fun h hh => ?_, by simp⟩
        rcases List.mem_append.1 hh with hh | hh
        · exact hhH.out h hh
        · rw [List.mem_singleton.1 hh]; exact ⟨k0, k1⟩
      · have hz2 : (er == 0) = false := by simp only [beq_eq_false_iff_ne]; exact hz
        clear hz
        go_wp2_with fail
        go_ret2
        exact ⟨x1, hv, hs, rfl, (hS5.out.erase 0).erase 0, hI1.out, hhH.out, by omega⟩
  · by_cases h14 : xd % 16 < 14
    · go_enter Try.func18, Try.ntmps18
      go_wp2_with fail
      have k1 := GW.cells (S := []) (hSH.out.block 1 rfl) (by simp)
      refine wp_region_pure (by kernel_rfl) (by kernel_rfl) ?_
      refine stage_quiet 24 (by kernel_rfl) ?_
      simp only [List.take_succ_cons, List.take_zero, List.drop_succ_cons, List.drop_zero]
      repeat (go_big_quiet_step (fail))
      refine wpQuiet_nil ?_
      refine stage_nil fun w2 hm2 => ?_
      have hS2 := Lib.hid (hSH.out.then hm2)
      have hcq2 := cells_of (hS2.out.block 1 rfl)
      have hce2 := cells_of (hS2.out.block 0 rfl)
      clear k1 hSH hm2 hcq hce
      go_wp2_with fail
      have k2 := GW.cells (S := []) (hS2.out.block 1 rfl) (by simp)
      refine wp_region_pure (by kernel_rfl) (by kernel_rfl) ?_
      refine stage_quiet 12 (by kernel_rfl) ?_
      simp only [List.take_succ_cons, List.take_zero, List.drop_succ_cons, List.drop_zero]
      repeat (go_big_quiet_step (fail))
      refine wpQuiet_nil ?_
      refine stage_nil fun w3 hm3 => ?_
      have hS3 := Lib.hid (hS2.out.then hm3)
      have hcq3 := cells_of (hS3.out.block 1 rfl)
      have hce3 := cells_of (hS3.out.block 0 rfl)
      clear k2 hS2 hm3 hcq2 hce2
      go_wp2_with fail
      refine (pair_issue (tm := tm) (ev' := ev') (c := c) (gv := gv) (lv := lv) 2 (hS3).out hI.out hn rfl hf1 hf2 _ _ xd 16 xd d00 (by omega)).mono ?_
      rintro e w4 ⟨kk, er, x1, rfl, k0, k1, hI1, hS4, hR4⟩
      have hcq4 := cells_of (hS4.block 1 rfl)
      have hce4 := cells_of (hS4.block 0 rfl)
      have hS4 := Lib.hid hS4
      have hR4 := Lib.hid hR4
      have hI1 := Lib.hid hI1
      clear hS3
      go_wp2_with fail
      refine (hR4.out _ _ 3 hS4.out rfl).mono ?_
      rintro e w5 ⟨rfl, hS5⟩
      have hS5 := Lib.hid hS5
      have hkk : (kk == kk) = true := by simp
      have hee : (er == er) = true := by simp
      clear hS4 hR4 hcq4 hce4
      by_cases hz : er = 0
      · subst hz
        have hown := Lib.hid (World.ownsRow_made (base := 0) (e := 35) (size := 1) w5 #[] 0 (Nat.zero_le _) (Nat.zero_le _) rfl)
        have hin := Lib.hid ((row_sliceIn (hS5.out.row 4 rfl)).mod ((Mod.refl [] w5).alloc (.cells #[] 35 (0, 0))))
        obtain ⟨i1, hi1, hy0, hy1, hy2⟩ := info_parts info_hd
        have hb1 : hs.length + 1 ≤ maxLen := by unfold maxLen; omega
        have hb2 : (hs.length + 1) * 8 ≤ 140737488355328 := by omega
        go_wp2_with (first | (at_builtin; refine wpList_append_in _ rfl _ _ 28 rfl 35 i1 (.int .u64 0) 8 Try.underlying28 hi1 hy0 hy1 hy2 rfl (.slice (some ⟨w5.heap.size, 0, none⟩) 0 0) 0 [] rfl hown.out hv _ rfl hin.out (by simp [Value.oneCell']) (by unfold maxLen; simp; omega) (by simp; omega) ?_; intro v1 w6 hown1 hgrow1 hfr1; simp only [Nat.zero_add, List.nil_append, List.length_map] at hown1; have hown1H := Lib.hid hown1; have hgrow1H := Lib.hid hgrow1; have hfr1H := Lib.hid hfr1; clear hown1 hgrow1 hfr1) | (at_builtin; refine wpList_append_row _ rfl _ _ 28 rfl 35 i1 (.int .u64 0) 1 8 Try.underlying28 hi1 hy0 hy1 hy2 rfl (by decide) v1 hs.length _ rfl (hown1H.out.alloc _) ⟨w6.heap.size, 0, none⟩ 1 1 [.int .u64 kk] rfl rfl (cells1 _ _ _) (by simp [Value.oneCell']) hb1 hb2 ?_; intro v2 w7 hown2 hgrow2 hfr2; obtain ⟨g7, c7, rfl, _, _⟩ := row_pos hown2 (by omega); have hown2H := Lib.hid hown2; have hgrow2H := Lib.hid hgrow2; have hfr2H := Lib.hid hfr2; clear hown2 hgrow2 hfr2))
        go_ret2
        have f1 : ∀ y, v1.ownBlock = some y → w5.heap.size ≤ y := fun y hy => by
          rcases hfr1H.out y hy with h | h <;> simp [Value.ownBlock] at h <;> omega
        have s1 : Mod [] w5 w6 := ((Mod.refl [] w5).alloc _).grown hgrow1H.out (fun k hk => .inr (by simp [Value.ownBlock] at hk; omega))
        have s2 : Mod [] w5 w7 := (s1.alloc _).grown hgrow2H.out (fun k hk => .inr (f1 k hk))
        obtain ⟨fp, _, hk'⟩ := hS5.out.part 4 rfl
        have hS7 := hk' w7 _ (rowC (.slice (some ⟨g7, 0, none⟩) (hs.length + 1) c7) (hs ++ [kk]).length 35 1 ((hs ++ [kk]).map (.int .u64))) ⟨by rw [List.length_append, List.map_append]; exact hown2H.out, rfl⟩ (s2.mono (by simp)) (fun y hy => .inr (by
          have hy' : (Value.slice (some ⟨g7, 0, none⟩) (hs.length + 1) c7).ownBlock = some y := by simpa using hy
          rcases hfr2H.out y hy' with h | h
          · exact f1 y h
          · have := s1.size; simp at h; omega))
        refine ⟨x1, _, hs ++ [kk], rfl, (hS7.erase 0).erase 0, hI1.out, fun h hh => ?_, by simp⟩
        rcases List.mem_append.1 hh with hh | hh
        · exact hhH.out h hh
        · rw [List.mem_singleton.1 hh]; exact ⟨k0, k1⟩
      · have hz2 : (er == 0) = false := by simp only [beq_eq_false_iff_ne]; exact hz
        clear hz
        go_wp2_with fail
        go_ret2
        exact ⟨x1, hv, hs, rfl, (hS5.out.erase 0).erase 0, hI1.out, hhH.out, by omega⟩
    · go_enter Try.func18, Try.ntmps18
      go_wp2_with fail
      have k1 := GW.cells (S := []) (hSH.out.block 1 rfl) (by simp)
      refine wp_region_pure (by kernel_rfl) (by kernel_rfl) ?_
      refine stage_quiet 24 (by kernel_rfl) ?_
      simp only [List.take_succ_cons, List.take_zero, List.drop_succ_cons, List.drop_zero]
      repeat (go_big_quiet_step (fail))
      refine wpQuiet_nil ?_
      refine stage_nil fun w2 hm2 => ?_
      have hS2 := Lib.hid (hSH.out.then hm2)
      have hcq2 := cells_of (hS2.out.block 1 rfl)
      have hce2 := cells_of (hS2.out.block 0 rfl)
      clear k1 hSH hm2 hcq hce
      go_wp2_with fail
      refine (pair_issue (tm := tm) (ev' := ev') (c := c) (gv := gv) (lv := lv) 2 (hS2).out hI.out hn rfl hf1 hf2 _ _ xd 16 xd d00 (by omega)).mono ?_
      rintro e w4 ⟨kk, er, x1, rfl, k0, k1, hI1, hS4, hR4⟩
      have hcq4 := cells_of (hS4.block 1 rfl)
      have hce4 := cells_of (hS4.block 0 rfl)
      have hS4 := Lib.hid hS4
      have hR4 := Lib.hid hR4
      have hI1 := Lib.hid hI1
      clear hS2
      go_wp2_with fail
      refine (hR4.out _ _ 3 hS4.out rfl).mono ?_
      rintro e w5 ⟨rfl, hS5⟩
      have hS5 := Lib.hid hS5
      have hkk : (kk == kk) = true := by simp
      have hee : (er == er) = true := by simp
      clear hS4 hR4 hcq4 hce4
      by_cases hz : er = 0
      · subst hz
        have hown := Lib.hid (World.ownsRow_made (base := 0) (e := 35) (size := 1) w5 #[] 0 (Nat.zero_le _) (Nat.zero_le _) rfl)
        have hin := Lib.hid ((row_sliceIn (hS5.out.row 4 rfl)).mod ((Mod.refl [] w5).alloc (.cells #[] 35 (0, 0))))
        obtain ⟨i1, hi1, hy0, hy1, hy2⟩ := info_parts info_hd
        have hb1 : hs.length + 1 ≤ maxLen := by unfold maxLen; omega
        have hb2 : (hs.length + 1) * 8 ≤ 140737488355328 := by omega
        go_wp2_with (first | (at_builtin; refine wpList_append_in _ rfl _ _ 28 rfl 35 i1 (.int .u64 0) 8 Try.underlying28 hi1 hy0 hy1 hy2 rfl (.slice (some ⟨w5.heap.size, 0, none⟩) 0 0) 0 [] rfl hown.out hv _ rfl hin.out (by simp [Value.oneCell']) (by unfold maxLen; simp; omega) (by simp; omega) ?_; intro v1 w6 hown1 hgrow1 hfr1; simp only [Nat.zero_add, List.nil_append, List.length_map] at hown1; have hown1H := Lib.hid hown1; have hgrow1H := Lib.hid hgrow1; have hfr1H := Lib.hid hfr1; clear hown1 hgrow1 hfr1) | (at_builtin; refine wpList_append_row _ rfl _ _ 28 rfl 35 i1 (.int .u64 0) 1 8 Try.underlying28 hi1 hy0 hy1 hy2 rfl (by decide) v1 hs.length _ rfl (hown1H.out.alloc _) ⟨w6.heap.size, 0, none⟩ 1 1 [.int .u64 kk] rfl rfl (cells1 _ _ _) (by simp [Value.oneCell']) hb1 hb2 ?_; intro v2 w7 hown2 hgrow2 hfr2; obtain ⟨g7, c7, rfl, _, _⟩ := row_pos hown2 (by omega); have hown2H := Lib.hid hown2; have hgrow2H := Lib.hid hgrow2; have hfr2H := Lib.hid hfr2; clear hown2 hgrow2 hfr2))
        go_ret2
        have f1 : ∀ y, v1.ownBlock = some y → w5.heap.size ≤ y := fun y hy => by
          rcases hfr1H.out y hy with h | h <;> simp [Value.ownBlock] at h <;> omega
        have s1 : Mod [] w5 w6 := ((Mod.refl [] w5).alloc _).grown hgrow1H.out (fun k hk => .inr (by simp [Value.ownBlock] at hk; omega))
        have s2 : Mod [] w5 w7 := (s1.alloc _).grown hgrow2H.out (fun k hk => .inr (f1 k hk))
        obtain ⟨fp, _, hk'⟩ := hS5.out.part 4 rfl
        have hS7 := hk' w7 _ (rowC (.slice (some ⟨g7, 0, none⟩) (hs.length + 1) c7) (hs ++ [kk]).length 35 1 ((hs ++ [kk]).map (.int .u64))) ⟨by rw [List.length_append, List.map_append]; exact hown2H.out, rfl⟩ (s2.mono (by simp)) (fun y hy => .inr (by
          have hy' : (Value.slice (some ⟨g7, 0, none⟩) (hs.length + 1) c7).ownBlock = some y := by simpa using hy
          rcases hfr2H.out y hy' with h | h
          · exact f1 y h
          · have := s1.size; simp at h; omega))
        refine ⟨x1, _, hs ++ [kk], rfl, (hS7.erase 0).erase 0, hI1.out, fun h hh => ?_, by simp⟩
        rcases List.mem_append.1 hh with hh | hh
        · exact hhH.out h hh
        · rw [List.mem_singleton.1 hh]; exact ⟨k0, k1⟩
      · have hz2 : (er == 0) = false := by simp only [beq_eq_false_iff_ne]; exact hz
        clear hz
        go_wp2_with fail
        go_ret2
        exact ⟨x1, hv, hs, rfl, (hS5.out.erase 0).erase 0, hI1.out, hhH.out, by omega⟩
end
end Go.Proofs.Ytcdmapllligjhaa
