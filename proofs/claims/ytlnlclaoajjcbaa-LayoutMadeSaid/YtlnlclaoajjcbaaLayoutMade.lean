/- LayoutMade: the walk of the law. -/
import Derived.Test.YtlnlclaoajjcbaaLayoutPrefix
import Derived.Test.YtlnlclaoajjcbaaFloat
namespace Go.Proofs.Ytlnlclaoajjcbaa
open Go Go.RowKit Go.Stg

theorem fcells_set : ∀ (fs : List Fld) (i : Nat) (a b : Int), i < fs.length → ((fcells fs).set (i * 2) (.int .i64 a)).set (i * 2 + 1) (.int .i64 b) = fcells (fs.set i (a, b))
  | [], i, _, _, h => by simp at h
  | f :: r, 0, a, b, _ => rfl
  | f :: r, i + 1, a, b, h => by
    have e : fcells (f :: r) = .int .i64 f.1 :: .int .i64 f.2 :: fcells r := rfl
    have e2 : fcells (f :: r.set i (a, b)) = .int .i64 f.1 :: .int .i64 f.2 :: fcells (r.set i (a, b)) := rfl
    have h1 : (i + 1) * 2 = i * 2 + 2 := by omega
    have h2 : i * 2 + 2 + 1 = i * 2 + 1 + 2 := by omega
    rw [List.set_cons_succ, e, e2, h1, h2, ← fcells_set r i a b (by simpa using h)]
    rfl
theorem fields_take1 {w : World} {g cap : Nat} {fs : List Fld} (h : FieldsAt w (.slice (some ⟨g, 0, none⟩) fs.length cap) fs) (h1 : 1 ≤ fs.length) : FieldsAt w (.slice (some ⟨g, 0, none⟩) 1 cap) [fs[0]] := by
  rcases h with ⟨h, _⟩ | ⟨sb, so, cap', e, h2, h3, h4⟩
  · simp at h
  · simp at e
    obtain ⟨⟨rfl, rfl⟩, rfl⟩ := e
    refine .inr ⟨g, 0, cap, rfl, h2, by simp [maxLen], fun i hi => ?_⟩
    have : i = 0 := by simpa using hi
    subst this
    exact h4 0 (by omega)
set_option maxHeartbeats 8000000 in
set_option maxRecDepth 10000 in
theorem made_walk (lv : Value) (xs : List Int) (ln i at' kd ct : Int) (l0 : 0 ≤ ln) (l1 : ln ≤ 65535) (i0 : -128 ≤ i) (i1 : i ≤ 127) (a0 : 0 ≤ at') (a1 : at' ≤ 255) (k0 : 0 ≤ kd) (k1 : kd ≤ 255) (c0 : -2147483648 ≤ ct) (c1 : ct ≤ 2147483647) (w : World) (h : NumsAt w lv xs) :
    Calls Try.prog 4 #[lv, .int .u16 ln, .int .i8 i, .int .u8 at', .int .u8 kd, .int .i32 ct] w fun e w' => e = .returned (.bool true) ∧ Mod [] w w' := by
  obtain ⟨f0, hi0, hz0, hz1, hz2⟩ := info_parts info_field
  have hO := Lib.hid (of_ok lv xs 30 (by omega) w h)
  clear h
  go_enter Try.func4, Try.ntmps4
  go_wp2_with fail
  refine hO.out.mono ?_
  rintro e w1 ⟨b, rfl, hm1, hT1, hb1⟩
  go_wp2_with fail
  refine (type_ok b 0 _ w1 hT1 (by omega)).mono ?_
  rintro e w2 ⟨len, g, cap, fs, rfl, hF, hM, hcap, hm2, hg⟩
  have hm2 := hm1.then hm2 (fun z hz => .inr (by rw [List.mem_singleton.1 hz]; exact hb1))
  clear hO hT1 hm1 hb1
  have hlen : -9223372036854775808 ≤ len ∧ len ≤ 9223372036854775807 := by
    rcases hM.2 with ⟨h, _⟩ | ⟨h1, h2, _⟩ <;> omega
  have hl1 : 1 ≤ fs.length ∧ fs.length ≤ 4 := by
    rcases hM.2 with ⟨_, h⟩ | ⟨_, _, h⟩ <;> omega
  clear hM
  have q0 := at_alloc w2 (.cells #[.int .i64 len, .slice (some ⟨g, 0, none⟩) fs.length cap] 24)
  have hm3 := hm2.alloc (.cells #[.int .i64 len, .slice (some ⟨g, 0, none⟩) fs.length cap] 24)
  have hF := hF.mod ((Mod.refl [] w2).alloc (.cells #[.int .i64 len, .slice (some ⟨g, 0, none⟩) fs.length cap] 24))
  have hsz : (w2.alloc (.cells #[.int .i64 len, .slice (some ⟨g, 0, none⟩) fs.length cap] 24)).heap.size = w2.heap.size + 1 := by simp
  go_wp2_with fail
  generalize hbT : w2.heap.size = T at *
  generalize w2.alloc (.cells #[.int .i64 len, .slice (some ⟨g, 0, none⟩) fs.length cap] 24) = W at *
  have hws := hm3.size
  clear hbT hm2 hg
  obtain ⟨hgw, hfl, hcel⟩ := fields_cells hF
  have h63 : 0 + fs.length ≤ maxLen := by unfold maxLen; omega
  have hby : (0 + fs.length) * 16 ≤ 140737488355328 := by omega
  have g0 := GW.cells (S := []) q0 (by simp)
  refine wp_region_float 7 _ (fun w' => ∃ x : GW [] W, w' = x.1) (fun w' => Mod [] W w') (by kernel_rfl) rfl rfl (by kernel_rfl) (by kernel_rfl) (fun _ h => InGW.of h) (Mod.refl _ _).drew ?_
  dsimp only [List.getElem_toArray, List.getElem_cons_succ, List.getElem_cons_zero]
  refine float_quiet 2 (by kernel_rfl) (by decide) ?_
  simp only [List.take_succ_cons, List.take_zero, List.drop_succ_cons, List.drop_zero, Nat.reduceAdd]
  repeat (go_big_quiet_step (fail))
  refine wpQuiet_nil ?_
  refine float_eff (by decide) rfl rfl ?A rfl (by simp) ?B
  case A =>
    refine eff_alloc (fun s => .slice (some ⟨s, 0, none⟩) 0 0) (.cells #[] 36 (0, 0)) (fun s w' => Mod [] W w' ∧ W.heap.size ≤ s ∧ w'.heap[s]? = some (.cells #[] 36 (0, 0))) (by intro s s' h; simpa using h) (fun w' hw => ?_) (fun w' hw => ⟨hw.alloc _, hw.size, at_alloc _ _⟩) (fun s w' h => InGW.of h.1) (fun s => ?_)
    · kernel_rfl
    simp only [Act.put, List.setIfInBounds_toArray, List.set_cons_succ, List.set_cons_zero]
    refine float_quiet 2 (by kernel_rfl) (by decide) ?_
    simp only [List.take_succ_cons, List.take_zero, List.drop_succ_cons, List.drop_zero, Nat.reduceAdd]
    repeat (go_big_quiet_step (fail))
    refine wpQuiet_nil ?_
    refine float_eff (by decide) rfl rfl ?A2 rfl (by simp) ?B2
    case A2 =>
      refine eff_any (fun v => ∃ g2 cap2, v = .slice (some ⟨g2, 0, none⟩) fs.length cap2) (fun v w' => Mod [] W w' ∧ w'.ownsRow 0 36 2 v fs.length (fcells fs) ∧ ∀ y, v.ownBlock = some y → W.heap.size ≤ y) ⟨_, 0, 0, rfl⟩ (fun w' hw => ?_) (fun v w' h => InGW.of h.1) (fun v hv => ?_)
      · obtain ⟨hw1, hw2, hw3⟩ := hw
        have hcw : ∀ j u, (fcells fs)[j]? = some u → w'.cell? ((⟨g, 0, none⟩ : Addr).add j) = some u := fun j u hj => by
          have := hcel j u hj
          rw [add_at] at this ⊢
          rw [cell_mod hw1 hgw (by simp)]
          exact this
        have hown : w'.ownsRow 0 36 2 (.slice (some ⟨s, 0, none⟩) 0 0) 0 [] := ⟨rfl, .inr ⟨s, 0, #[], rfl, Nat.zero_le _, hw3, Nat.le_refl _, Nat.zero_le _, rfl, rfl⟩⟩
        obtain ⟨v', w3, hr, h2, h3, h4⟩ := run_append_row (P := Try.prog) w' 22 22 36 f0 (.agg #[.int .i64 0, .int .i64 0]) 2 16 Try.underlying22 hi0 hz0 hz1 hz2 rfl (by decide) (.slice (some ⟨s, 0, none⟩) 0 0) 0 [] hown ⟨g, 0, none⟩ fs.length cap (fcells fs) (fcells_length fs) hcw (fcells_one fs) h63 hby
        simp only [Nat.zero_add, List.nil_append] at h2
        obtain ⟨g', cap', rfl, _, _⟩ := row_pos h2 (by omega)
        have hrow3 : ∀ k, (Value.slice (some ⟨s, 0, none⟩) 0 0).ownBlock = some k → k = s := fun k hk => by
          have hk' : some s = some k := hk
          exact (Option.some.inj hk').symm
        have hmod3 : Mod [] W w3 := hw1.grown h3 (fun k hk => .inr (by rw [hrow3 k hk]; exact hw2))
        have hge3 : ∀ y, (Value.slice (some ⟨g', 0, none⟩) fs.length cap').ownBlock = some y → W.heap.size ≤ y := fun y hy => by
          rcases h4 y hy with h | h
          · rw [hrow3 y h]; exact hw2
          · exact Nat.le_trans hw1.size h
        exact ⟨_, w3, exec_append _ _ 22 rfl rfl rfl hr, ⟨g', cap', rfl⟩, hmod3, h2, hge3⟩
      simp only [Act.put, List.setIfInBounds_toArray, List.set_cons_succ, List.set_cons_zero]
      obtain ⟨g2, cap2, rfl⟩ := hv
      refine float_quiet 1 (by kernel_rfl) (by decide) ?_
      simp only [List.take_succ_cons, List.take_zero, List.drop_succ_cons, List.drop_zero, Nat.reduceAdd]
      repeat (go_big_quiet_step (fail))
      refine wpQuiet_nil ?_
      refine float_here ?_
      refine stage_alloc (fun p => .pointer (some ⟨p, 0, none⟩)) (.cells #[.int .i64 0, .slice none 0 0] 24 (0, 0)) (fun p w' => Mod [] W w' ∧ w'.ownsRow 0 36 2 (.slice (some ⟨g2, 0, none⟩) fs.length cap2) fs.length (fcells fs) ∧ (∀ y, (Value.slice (some ⟨g2, 0, none⟩) fs.length cap2).ownBlock = some y → W.heap.size ≤ y) ∧ W.heap.size ≤ p ∧ w'.heap[p]? = some (.cells #[.int .i64 0, .slice none 0 0] 24 (0, 0)) ∧ ∀ y, (Value.slice (some ⟨g2, 0, none⟩) fs.length cap2).ownBlock = some y → y ≠ p) (by intro s s' h; simpa using h) rfl rfl (fun w' hw => ?_) (fun w' hw => ⟨hw.1.alloc _, row_mod hw.2.1 ((Mod.refl [] w').alloc _) (by simp), hw.2.2, hw.1.size, at_alloc _ _, fun y hy => by have := (hw.2.1.lt y hy).2; omega⟩) (fun s w' h => InGW.of h.1) (fun p => ?_)
      · kernel_rfl
      simp only [Act.put, List.setIfInBounds_toArray, List.set_cons_succ, List.set_cons_zero]
      refine stage_store (p := ⟨p, 0, none⟩) (u := .agg #[.int .i64 len, .slice (some ⟨g2, 0, none⟩) fs.length cap2]) (fun w' => (w'.setCell ⟨p, 0, none⟩ (.int .i64 len)).setCell ⟨p, 1, none⟩ (.slice (some ⟨g2, 0, none⟩) fs.length cap2)) rfl rfl (by kernel_rfl) rfl rfl rfl (fun w' hw => ?_) (fun w' hw => ?_)
      · have d1 := cells_of hw.2.2.2.2.1
        have d2 := frozen_of hw.2.2.2.2.1
        clear g0 hw
        go_simp
      · obtain ⟨hw1, hw2, hw3, hw4, hw5, hw6⟩ := hw
        have hw3 := hw3 g2 rfl
        have hw6 := hw6 g2 rfl
        have u0 : ((w'.setCell ⟨p, 0, none⟩ (.int .i64 len)).setCell ⟨p, 1, none⟩ (.slice (some ⟨g2, 0, none⟩) fs.length cap2)).heap[p]? = some (.cells #[.int .i64 len, .slice (some ⟨g2, 0, none⟩) fs.length cap2] 24 (0, 0)) := by simpa using at_setCell (o := 1) (v := .slice (some ⟨g2, 0, none⟩) fs.length cap2) (at_setCell (o := 0) (v := .int .i64 len) hw5)
        have hmp := ((Mod.refl [p] w').setCell (p := ⟨p, 0, none⟩) (.inl (by simp)) (.int .i64 len)).setCell (p := ⟨p, 1, none⟩) (.inl (by simp)) (.slice (some ⟨g2, 0, none⟩) fs.length cap2)
        have hr2 := row_mod hw2 hmp (fun x hx => by have hx' : some g2 = some x := hx; obtain rfl := Option.some.inj hx'; simpa using hw6)
        have hm4 := hw1.then hmp (fun z hz => .inr (by rw [List.mem_singleton.1 hz]; exact hw4))
        generalize (w'.setCell ⟨p, 0, none⟩ (.int .i64 len)).setCell ⟨p, 1, none⟩ (.slice (some ⟨g2, 0, none⟩) fs.length cap2) = W4 at *
        clear hw1 hw2 hw5 hmp g0
        have qt4 := hm4.at q0 (by simp)
        have hF4 := hF.mod hm4
        have hgs : g < g2 := by omega
        have hm5 := hm3.nil_then hm4
        clear hF hcel q0 hm3 hm4
        have hidx0 := Int.emod_nonneg at' (show (fs.length : Int) ≠ 0 by omega)
        have hidx1 := Int.emod_lt_of_pos at' (show (0 : Int) < fs.length by omega)
        obtain ⟨idx, hidx⟩ := Int.eq_ofNat_of_zero_le hidx0
        rw [hidx] at hidx1
        have hil : idx < fs.length := by omega
        have hne : ((fs.length : Int) == 0) = false := by simp only [beq_eq_false_iff_ne]; omega
        clear hidx0 hidx1
        go_wp2_with fail
        have j1 := GW.cells (S := []) u0 (by simp)
        refine wp_region_pure (by kernel_rfl) (by kernel_rfl) ?_
        refine stage_quiet 10 (by kernel_rfl) ?_
        simp only [List.take_succ_cons, List.take_zero, List.drop_succ_cons, List.drop_zero]
        repeat (go_big_quiet_step (fail))
        refine wpQuiet_nil ?_
        refine stage_nil fun w5 hm6 => ?_
        have u5 := hm6.at u0 (by simp)
        have qt5 := hm6.at qt4 (by simp)
        have hF5 := hF4.mod hm6
        have r5 := row_mod hr2 hm6 (by simp)
        have hm7 := hm5.nil_then hm6
        have hFw := (fields_cells hF5).1
        have hwt := lt_of qt5
        have hwu := lt_of u5
        clear j1 u0 qt4 hF4 hr2 hm5 hm6 hidx hne
        obtain ⟨e1, e2⟩ := fcells_at fs idx hil
        have d1 := (r5.cellAt (idx * 2) (by omega)).trans e1
        have d2 := (r5.cellAt (idx * 2 + 1) (by omega)).trans e2
        have d3 := r5.frozenAt (idx * 2)
        have d4 := r5.frozenAt (idx * 2 + 1)
        have r6 := ((r5.stored (idx * 2) (.int .i64 (kd % 9 - 1))).1.stored (idx * 2 + 1) (.int .i64 ct)).1
        rw [fcells_set fs idx _ _ hil] at r6
        have hmg := ((Mod.refl [g2] w5).setCell (p := ⟨g2, idx * 2, none⟩) (.inl (by simp)) (.int .i64 (kd % 9 - 1))).setCell (p := ⟨g2, idx * 2 + 1, none⟩) (.inl (by simp)) (.int .i64 ct)
        have hT2 : T ≠ g2 := by omega
        have q6 := hmg.at qt5 (by simpa using hT2)
        have u6 := hmg.at u5 (by simpa using Ne.symm hw6)
        have hF6 := hF5.modS hmg (fun x hx => by have hx' : some g = some x := hx; obtain rfl := Option.some.inj hx'; simp; omega)
        have hm8 := hm7.then hmg (fun z hz => .inr (by rw [List.mem_singleton.1 hz]; have := hm7.size; omega))
        have cq := cells_of qt5
        have cq6 := cells_of q6
        clear e1 e2 r5 hF5 hmg hm7 u5 qt5
        go_wp2_with fail
        have hsz6 : ((w5.setCell ⟨g2, idx * 2, none⟩ (.int .i64 (kd % 9 - 1))).setCell ⟨g2, idx * 2 + 1, none⟩ (.int .i64 ct)).heap.size = w5.heap.size := by simp [World.setCell]
        generalize (w5.setCell ⟨g2, idx * 2, none⟩ (.int .i64 (kd % 9 - 1))).setCell ⟨g2, idx * 2 + 1, none⟩ (.int .i64 ct) = W6 at *
        have v7 := at_alloc W6 (.cells #[.int .i64 ln, .slice (some ⟨g, 0, none⟩) 1 cap] 24)
        rw [hsz6] at v7
        have u7 := at_alloc_old (o := .cells #[.int .i64 ln, .slice (some ⟨g, 0, none⟩) 1 cap] 24) u6
        have q7 := at_alloc_old (o := .cells #[.int .i64 ln, .slice (some ⟨g, 0, none⟩) 1 cap] 24) q6
        have hFt := hF6.mod ((Mod.refl [] W6).alloc (.cells #[.int .i64 ln, .slice (some ⟨g, 0, none⟩) 1 cap] 24))
        have hFu := (row_fields r6 (by simp)).mod ((Mod.refl [] W6).alloc (.cells #[.int .i64 ln, .slice (some ⟨g, 0, none⟩) 1 cap] 24))
        have hFv := fields_take1 hFt hl1.1
        have hm9 := hm8.alloc (.cells #[.int .i64 ln, .slice (some ⟨g, 0, none⟩) 1 cap] 24)
        generalize W6.alloc (.cells #[.int .i64 ln, .slice (some ⟨g, 0, none⟩) 1 cap] 24) = W7 at *
        have z1 := Lib.hid fun (w' : World) (h : Mod [] W7 w') => same_ok len _ _ i w' (hFt.mod h) hlen.1 hlen.2
        have z2 := Lib.hid fun (w' : World) (h : Mod [] W7 w') => same_ok len _ _ i w' (hFu.mod h) hlen.1 hlen.2
        have z3 := Lib.hid fun (w' : World) (h : Mod [] W7 w') => same_ok ln _ _ i w' (hFv.mod h) (by omega) (by omega)
        clear hFt hFu hFv r6 hF6 q6 u6 cq cq6 d1 d2 d3 d4 hm8
        refine (awake_ok _).mono ?_
        rintro e w10 ⟨rfl, hm10⟩
        have cb := cells_of (hm10.at q7 (by simp))
        go_wp2_with fail
        refine (z1.out _ hm10).mono ?_
        rintro e w11 ⟨rfl, hm11⟩
        have hm11 := hm10.nil_then hm11
        clear cb
        have cb := cells_of (hm11.at u7 (by simp))
        go_wp2_with fail
        refine (z2.out _ hm11).mono ?_
        rintro e w12 ⟨rfl, hm12⟩
        have hm12 := hm11.nil_then hm12
        clear cb
        have cb := cells_of (hm12.at v7 (by simp))
        go_wp2_with fail
        refine (z3.out _ hm12).mono ?_
        rintro e w13 ⟨rfl, hm13⟩
        go_wp2_with fail
        go_ret
        exact ⟨rfl, (hm9.nil_then hm12).nil_then hm13⟩
    case B2 =>
      simp only [Nat.reduceSub, List.eraseIdx_cons_succ, List.eraseIdx_cons_zero]
      refine stage_alloc (fun p => .pointer (some ⟨p, 0, none⟩)) (.cells #[.int .i64 0, .slice none 0 0] 24 (0, 0)) (fun p w' => Mod [] W w' ∧ W.heap.size ≤ s ∧ w'.heap[s]? = some (.cells #[] 36 (0, 0)) ∧ W.heap.size ≤ p ∧ w'.heap[p]? = some (.cells #[.int .i64 0, .slice none 0 0] 24 (0, 0)) ∧ s ≠ p) (by intro s s' h; simpa using h) rfl rfl (fun w' hw => ?_) (fun w' hw => ⟨hw.1.alloc _, hw.2.1, at_alloc_old hw.2.2, hw.1.size, at_alloc _ _, by have := lt_of hw.2.2; omega⟩) (fun s w' h => InGW.of h.1) (fun p => ?_)
      · kernel_rfl
      simp only [Act.put, List.setIfInBounds_toArray, List.set_cons_succ, List.set_cons_zero]
      refine stage_any (fun v => ∃ g2 cap2, v = .slice (some ⟨g2, 0, none⟩) fs.length cap2) (fun v w' => Mod [] W w' ∧ w'.ownsRow 0 36 2 v fs.length (fcells fs) ∧ (∀ y, v.ownBlock = some y → W.heap.size ≤ y) ∧ W.heap.size ≤ p ∧ w'.heap[p]? = some (.cells #[.int .i64 0, .slice none 0 0] 24 (0, 0)) ∧ ∀ y, v.ownBlock = some y → y ≠ p) rfl rfl ⟨_, 0, 0, rfl⟩ (fun w' hw => ?_) (fun v w' h => InGW.of h.1) (fun v hv => ?_)
      · obtain ⟨hw1, hw2, hw3, hwp, hwq, hwsp⟩ := hw
        have hcw : ∀ j u, (fcells fs)[j]? = some u → w'.cell? ((⟨g, 0, none⟩ : Addr).add j) = some u := fun j u hj => by
          have := hcel j u hj
          rw [add_at] at this ⊢
          rw [cell_mod hw1 hgw (by simp)]
          exact this
        have hown : w'.ownsRow 0 36 2 (.slice (some ⟨s, 0, none⟩) 0 0) 0 [] := ⟨rfl, .inr ⟨s, 0, #[], rfl, Nat.zero_le _, hw3, Nat.le_refl _, Nat.zero_le _, rfl, rfl⟩⟩
        obtain ⟨v', w3, hr, h2, h3, h4⟩ := run_append_row (P := Try.prog) w' 22 22 36 f0 (.agg #[.int .i64 0, .int .i64 0]) 2 16 Try.underlying22 hi0 hz0 hz1 hz2 rfl (by decide) (.slice (some ⟨s, 0, none⟩) 0 0) 0 [] hown ⟨g, 0, none⟩ fs.length cap (fcells fs) (fcells_length fs) hcw (fcells_one fs) h63 hby
        simp only [Nat.zero_add, List.nil_append] at h2
        obtain ⟨g', cap', rfl, _, _⟩ := row_pos h2 (by omega)
        have hrow3 : ∀ k, (Value.slice (some ⟨s, 0, none⟩) 0 0).ownBlock = some k → k = s := fun k hk => by
          have hk' : some s = some k := hk
          exact (Option.some.inj hk').symm
        have hmod3 : Mod [] W w3 := hw1.grown h3 (fun k hk => .inr (by rw [hrow3 k hk]; exact hw2))
        have hge3 : ∀ y, (Value.slice (some ⟨g', 0, none⟩) fs.length cap').ownBlock = some y → W.heap.size ≤ y := fun y hy => by
          rcases h4 y hy with h | h
          · rw [hrow3 y h]; exact hw2
          · exact Nat.le_trans hw1.size h
        have hne3 : ∀ y, (Value.slice (some ⟨g', 0, none⟩) fs.length cap').ownBlock = some y → y ≠ p := fun y hy => by
          rcases h4 y hy with h | h
          · rw [hrow3 y h]; exact hwsp
          · have := lt_of hwq; omega
        exact ⟨_, w3, exec_append _ _ 22 rfl rfl rfl hr, ⟨g', cap', rfl⟩, hmod3, h2, hge3, hwp, (h3.block p (lt_of hwq) (fun e => hwsp (hrow3 p e.symm).symm)).trans hwq, hne3⟩
      simp only [Act.put, List.setIfInBounds_toArray, List.set_cons_succ, List.set_cons_zero]
      obtain ⟨g2, cap2, rfl⟩ := hv
      refine stage_quiet 1 (by kernel_rfl) ?_
      simp only [List.take_succ_cons, List.take_zero, List.drop_succ_cons, List.drop_zero]
      repeat (go_big_quiet_step (fail))
      refine wpQuiet_nil ?_
      refine stage_store (p := ⟨p, 0, none⟩) (u := .agg #[.int .i64 len, .slice (some ⟨g2, 0, none⟩) fs.length cap2]) (fun w' => (w'.setCell ⟨p, 0, none⟩ (.int .i64 len)).setCell ⟨p, 1, none⟩ (.slice (some ⟨g2, 0, none⟩) fs.length cap2)) rfl rfl (by kernel_rfl) rfl rfl rfl (fun w' hw => ?_) (fun w' hw => ?_)
      · have d1 := cells_of hw.2.2.2.2.1
        have d2 := frozen_of hw.2.2.2.2.1
        clear g0 hw
        go_simp
      · obtain ⟨hw1, hw2, hw3, hw4, hw5, hw6⟩ := hw
        have hw3 := hw3 g2 rfl
        have hw6 := hw6 g2 rfl
        have u0 : ((w'.setCell ⟨p, 0, none⟩ (.int .i64 len)).setCell ⟨p, 1, none⟩ (.slice (some ⟨g2, 0, none⟩) fs.length cap2)).heap[p]? = some (.cells #[.int .i64 len, .slice (some ⟨g2, 0, none⟩) fs.length cap2] 24 (0, 0)) := by simpa using at_setCell (o := 1) (v := .slice (some ⟨g2, 0, none⟩) fs.length cap2) (at_setCell (o := 0) (v := .int .i64 len) hw5)
        have hmp := ((Mod.refl [p] w').setCell (p := ⟨p, 0, none⟩) (.inl (by simp)) (.int .i64 len)).setCell (p := ⟨p, 1, none⟩) (.inl (by simp)) (.slice (some ⟨g2, 0, none⟩) fs.length cap2)
        have hr2 := row_mod hw2 hmp (fun x hx => by have hx' : some g2 = some x := hx; obtain rfl := Option.some.inj hx'; simpa using hw6)
        have hm4 := hw1.then hmp (fun z hz => .inr (by rw [List.mem_singleton.1 hz]; exact hw4))
        generalize (w'.setCell ⟨p, 0, none⟩ (.int .i64 len)).setCell ⟨p, 1, none⟩ (.slice (some ⟨g2, 0, none⟩) fs.length cap2) = W4 at *
        clear hw1 hw2 hw5 hmp g0
        have qt4 := hm4.at q0 (by simp)
        have hF4 := hF.mod hm4
        have hgs : g < g2 := by omega
        have hm5 := hm3.nil_then hm4
        clear hF hcel q0 hm3 hm4
        have hidx0 := Int.emod_nonneg at' (show (fs.length : Int) ≠ 0 by omega)
        have hidx1 := Int.emod_lt_of_pos at' (show (0 : Int) < fs.length by omega)
        obtain ⟨idx, hidx⟩ := Int.eq_ofNat_of_zero_le hidx0
        rw [hidx] at hidx1
        have hil : idx < fs.length := by omega
        have hne : ((fs.length : Int) == 0) = false := by simp only [beq_eq_false_iff_ne]; omega
        clear hidx0 hidx1
        go_wp2_with fail
        have j1 := GW.cells (S := []) u0 (by simp)
        refine wp_region_pure (by kernel_rfl) (by kernel_rfl) ?_
        refine stage_quiet 10 (by kernel_rfl) ?_
        simp only [List.take_succ_cons, List.take_zero, List.drop_succ_cons, List.drop_zero]
        repeat (go_big_quiet_step (fail))
        refine wpQuiet_nil ?_
        refine stage_nil fun w5 hm6 => ?_
        have u5 := hm6.at u0 (by simp)
        have qt5 := hm6.at qt4 (by simp)
        have hF5 := hF4.mod hm6
        have r5 := row_mod hr2 hm6 (by simp)
        have hm7 := hm5.nil_then hm6
        have hFw := (fields_cells hF5).1
        have hwt := lt_of qt5
        have hwu := lt_of u5
        clear j1 u0 qt4 hF4 hr2 hm5 hm6 hidx hne
        obtain ⟨e1, e2⟩ := fcells_at fs idx hil
        have d1 := (r5.cellAt (idx * 2) (by omega)).trans e1
        have d2 := (r5.cellAt (idx * 2 + 1) (by omega)).trans e2
        have d3 := r5.frozenAt (idx * 2)
        have d4 := r5.frozenAt (idx * 2 + 1)
        have r6 := ((r5.stored (idx * 2) (.int .i64 (kd % 9 - 1))).1.stored (idx * 2 + 1) (.int .i64 ct)).1
        rw [fcells_set fs idx _ _ hil] at r6
        have hmg := ((Mod.refl [g2] w5).setCell (p := ⟨g2, idx * 2, none⟩) (.inl (by simp)) (.int .i64 (kd % 9 - 1))).setCell (p := ⟨g2, idx * 2 + 1, none⟩) (.inl (by simp)) (.int .i64 ct)
        have hT2 : T ≠ g2 := by omega
        have q6 := hmg.at qt5 (by simpa using hT2)
        have u6 := hmg.at u5 (by simpa using Ne.symm hw6)
        have hF6 := hF5.modS hmg (fun x hx => by have hx' : some g = some x := hx; obtain rfl := Option.some.inj hx'; simp; omega)
        have hm8 := hm7.then hmg (fun z hz => .inr (by rw [List.mem_singleton.1 hz]; have := hm7.size; omega))
        have cq := cells_of qt5
        have cq6 := cells_of q6
        clear e1 e2 r5 hF5 hmg hm7 u5 qt5
        go_wp2_with fail
        have hsz6 : ((w5.setCell ⟨g2, idx * 2, none⟩ (.int .i64 (kd % 9 - 1))).setCell ⟨g2, idx * 2 + 1, none⟩ (.int .i64 ct)).heap.size = w5.heap.size := by simp [World.setCell]
        generalize (w5.setCell ⟨g2, idx * 2, none⟩ (.int .i64 (kd % 9 - 1))).setCell ⟨g2, idx * 2 + 1, none⟩ (.int .i64 ct) = W6 at *
        have v7 := at_alloc W6 (.cells #[.int .i64 ln, .slice (some ⟨g, 0, none⟩) 1 cap] 24)
        rw [hsz6] at v7
        have u7 := at_alloc_old (o := .cells #[.int .i64 ln, .slice (some ⟨g, 0, none⟩) 1 cap] 24) u6
        have q7 := at_alloc_old (o := .cells #[.int .i64 ln, .slice (some ⟨g, 0, none⟩) 1 cap] 24) q6
        have hFt := hF6.mod ((Mod.refl [] W6).alloc (.cells #[.int .i64 ln, .slice (some ⟨g, 0, none⟩) 1 cap] 24))
        have hFu := (row_fields r6 (by simp)).mod ((Mod.refl [] W6).alloc (.cells #[.int .i64 ln, .slice (some ⟨g, 0, none⟩) 1 cap] 24))
        have hFv := fields_take1 hFt hl1.1
        have hm9 := hm8.alloc (.cells #[.int .i64 ln, .slice (some ⟨g, 0, none⟩) 1 cap] 24)
        generalize W6.alloc (.cells #[.int .i64 ln, .slice (some ⟨g, 0, none⟩) 1 cap] 24) = W7 at *
        have z1 := Lib.hid fun (w' : World) (h : Mod [] W7 w') => same_ok len _ _ i w' (hFt.mod h) hlen.1 hlen.2
        have z2 := Lib.hid fun (w' : World) (h : Mod [] W7 w') => same_ok len _ _ i w' (hFu.mod h) hlen.1 hlen.2
        have z3 := Lib.hid fun (w' : World) (h : Mod [] W7 w') => same_ok ln _ _ i w' (hFv.mod h) (by omega) (by omega)
        clear hFt hFu hFv r6 hF6 q6 u6 cq cq6 d1 d2 d3 d4 hm8
        refine (awake_ok _).mono ?_
        rintro e w10 ⟨rfl, hm10⟩
        have cb := cells_of (hm10.at q7 (by simp))
        go_wp2_with fail
        refine (z1.out _ hm10).mono ?_
        rintro e w11 ⟨rfl, hm11⟩
        have hm11 := hm10.nil_then hm11
        clear cb
        have cb := cells_of (hm11.at u7 (by simp))
        go_wp2_with fail
        refine (z2.out _ hm11).mono ?_
        rintro e w12 ⟨rfl, hm12⟩
        have hm12 := hm11.nil_then hm12
        clear cb
        have cb := cells_of (hm12.at v7 (by simp))
        go_wp2_with fail
        refine (z3.out _ hm12).mono ?_
        rintro e w13 ⟨rfl, hm13⟩
        go_wp2_with fail
        go_ret
        exact ⟨rfl, (hm9.nil_then hm12).nil_then hm13⟩
  case B =>
    simp only [Nat.reduceSub, List.eraseIdx_cons_succ, List.eraseIdx_cons_zero]
    refine stage_alloc (fun p => .pointer (some ⟨p, 0, none⟩)) (.cells #[.int .i64 0, .slice none 0 0] 24 (0, 0)) (fun p w' => Mod [] W w' ∧ W.heap.size ≤ p ∧ w'.heap[p]? = some (.cells #[.int .i64 0, .slice none 0 0] 24 (0, 0))) (by intro s s' h; simpa using h) rfl rfl (fun w' hw => ?_) (fun w' hw => ⟨hw.alloc _, hw.size, at_alloc _ _⟩) (fun s w' h => InGW.of h.1) (fun p => ?_)
    · kernel_rfl
    simp only [Act.put, List.setIfInBounds_toArray, List.set_cons_succ, List.set_cons_zero]
    refine stage_alloc (fun s => .slice (some ⟨s, 0, none⟩) 0 0) (.cells #[] 36 (0, 0)) (fun s w' => Mod [] W w' ∧ W.heap.size ≤ s ∧ w'.heap[s]? = some (.cells #[] 36 (0, 0)) ∧ W.heap.size ≤ p ∧ w'.heap[p]? = some (.cells #[.int .i64 0, .slice none 0 0] 24 (0, 0)) ∧ s ≠ p) (by intro s s' h; simpa using h) rfl rfl (fun w' hw => ?_) (fun w' hw => ⟨hw.1.alloc _, hw.1.size, at_alloc _ _, hw.2.1, at_alloc_old hw.2.2, by have := lt_of hw.2.2; omega⟩) (fun s w' h => InGW.of h.1) (fun s => ?_)
    · kernel_rfl
    simp only [Act.put, List.setIfInBounds_toArray, List.set_cons_succ, List.set_cons_zero]
    refine stage_quiet 2 (by kernel_rfl) ?_
    simp only [List.take_succ_cons, List.take_zero, List.drop_succ_cons, List.drop_zero]
    repeat (go_big_quiet_step (fail))
    refine wpQuiet_nil ?_
    refine stage_any (fun v => ∃ g2 cap2, v = .slice (some ⟨g2, 0, none⟩) fs.length cap2) (fun v w' => Mod [] W w' ∧ w'.ownsRow 0 36 2 v fs.length (fcells fs) ∧ (∀ y, v.ownBlock = some y → W.heap.size ≤ y) ∧ W.heap.size ≤ p ∧ w'.heap[p]? = some (.cells #[.int .i64 0, .slice none 0 0] 24 (0, 0)) ∧ ∀ y, v.ownBlock = some y → y ≠ p) rfl rfl ⟨_, 0, 0, rfl⟩ (fun w' hw => ?_) (fun v w' h => InGW.of h.1) (fun v hv => ?_)
    · obtain ⟨hw1, hw2, hw3, hwp, hwq, hwsp⟩ := hw
      have hcw : ∀ j u, (fcells fs)[j]? = some u → w'.cell? ((⟨g, 0, none⟩ : Addr).add j) = some u := fun j u hj => by
        have := hcel j u hj
        rw [add_at] at this ⊢
        rw [cell_mod hw1 hgw (by simp)]
        exact this
      have hown : w'.ownsRow 0 36 2 (.slice (some ⟨s, 0, none⟩) 0 0) 0 [] := ⟨rfl, .inr ⟨s, 0, #[], rfl, Nat.zero_le _, hw3, Nat.le_refl _, Nat.zero_le _, rfl, rfl⟩⟩
      obtain ⟨v', w3, hr, h2, h3, h4⟩ := run_append_row (P := Try.prog) w' 22 22 36 f0 (.agg #[.int .i64 0, .int .i64 0]) 2 16 Try.underlying22 hi0 hz0 hz1 hz2 rfl (by decide) (.slice (some ⟨s, 0, none⟩) 0 0) 0 [] hown ⟨g, 0, none⟩ fs.length cap (fcells fs) (fcells_length fs) hcw (fcells_one fs) h63 hby
      simp only [Nat.zero_add, List.nil_append] at h2
      obtain ⟨g', cap', rfl, _, _⟩ := row_pos h2 (by omega)
      have hrow3 : ∀ k, (Value.slice (some ⟨s, 0, none⟩) 0 0).ownBlock = some k → k = s := fun k hk => by
        have hk' : some s = some k := hk
        exact (Option.some.inj hk').symm
      have hmod3 : Mod [] W w3 := hw1.grown h3 (fun k hk => .inr (by rw [hrow3 k hk]; exact hw2))
      have hge3 : ∀ y, (Value.slice (some ⟨g', 0, none⟩) fs.length cap').ownBlock = some y → W.heap.size ≤ y := fun y hy => by
        rcases h4 y hy with h | h
        · rw [hrow3 y h]; exact hw2
        · exact Nat.le_trans hw1.size h
      have hne3 : ∀ y, (Value.slice (some ⟨g', 0, none⟩) fs.length cap').ownBlock = some y → y ≠ p := fun y hy => by
        rcases h4 y hy with h | h
        · rw [hrow3 y h]; exact hwsp
        · have := lt_of hwq; omega
      exact ⟨_, w3, exec_append _ _ 22 rfl rfl rfl hr, ⟨g', cap', rfl⟩, hmod3, h2, hge3, hwp, (h3.block p (lt_of hwq) (fun e => hwsp (hrow3 p e.symm).symm)).trans hwq, hne3⟩
    simp only [Act.put, List.setIfInBounds_toArray, List.set_cons_succ, List.set_cons_zero]
    obtain ⟨g2, cap2, rfl⟩ := hv
    refine stage_quiet 1 (by kernel_rfl) ?_
    simp only [List.take_succ_cons, List.take_zero, List.drop_succ_cons, List.drop_zero]
    repeat (go_big_quiet_step (fail))
    refine wpQuiet_nil ?_
    refine stage_store (p := ⟨p, 0, none⟩) (u := .agg #[.int .i64 len, .slice (some ⟨g2, 0, none⟩) fs.length cap2]) (fun w' => (w'.setCell ⟨p, 0, none⟩ (.int .i64 len)).setCell ⟨p, 1, none⟩ (.slice (some ⟨g2, 0, none⟩) fs.length cap2)) rfl rfl (by kernel_rfl) rfl rfl rfl (fun w' hw => ?_) (fun w' hw => ?_)
    · have d1 := cells_of hw.2.2.2.2.1
      have d2 := frozen_of hw.2.2.2.2.1
      clear g0 hw
      go_simp
    · obtain ⟨hw1, hw2, hw3, hw4, hw5, hw6⟩ := hw
      have hw3 := hw3 g2 rfl
      have hw6 := hw6 g2 rfl
      have u0 : ((w'.setCell ⟨p, 0, none⟩ (.int .i64 len)).setCell ⟨p, 1, none⟩ (.slice (some ⟨g2, 0, none⟩) fs.length cap2)).heap[p]? = some (.cells #[.int .i64 len, .slice (some ⟨g2, 0, none⟩) fs.length cap2] 24 (0, 0)) := by simpa using at_setCell (o := 1) (v := .slice (some ⟨g2, 0, none⟩) fs.length cap2) (at_setCell (o := 0) (v := .int .i64 len) hw5)
      have hmp := ((Mod.refl [p] w').setCell (p := ⟨p, 0, none⟩) (.inl (by simp)) (.int .i64 len)).setCell (p := ⟨p, 1, none⟩) (.inl (by simp)) (.slice (some ⟨g2, 0, none⟩) fs.length cap2)
      have hr2 := row_mod hw2 hmp (fun x hx => by have hx' : some g2 = some x := hx; obtain rfl := Option.some.inj hx'; simpa using hw6)
      have hm4 := hw1.then hmp (fun z hz => .inr (by rw [List.mem_singleton.1 hz]; exact hw4))
      generalize (w'.setCell ⟨p, 0, none⟩ (.int .i64 len)).setCell ⟨p, 1, none⟩ (.slice (some ⟨g2, 0, none⟩) fs.length cap2) = W4 at *
      clear hw1 hw2 hw5 hmp g0
      have qt4 := hm4.at q0 (by simp)
      have hF4 := hF.mod hm4
      have hgs : g < g2 := by omega
      have hm5 := hm3.nil_then hm4
      clear hF hcel q0 hm3 hm4
      have hidx0 := Int.emod_nonneg at' (show (fs.length : Int) ≠ 0 by omega)
      have hidx1 := Int.emod_lt_of_pos at' (show (0 : Int) < fs.length by omega)
      obtain ⟨idx, hidx⟩ := Int.eq_ofNat_of_zero_le hidx0
      rw [hidx] at hidx1
      have hil : idx < fs.length := by omega
      have hne : ((fs.length : Int) == 0) = false := by simp only [beq_eq_false_iff_ne]; omega
      clear hidx0 hidx1
      go_wp2_with fail
      have j1 := GW.cells (S := []) u0 (by simp)
      refine wp_region_pure (by kernel_rfl) (by kernel_rfl) ?_
      refine stage_quiet 10 (by kernel_rfl) ?_
      simp only [List.take_succ_cons, List.take_zero, List.drop_succ_cons, List.drop_zero]
      repeat (go_big_quiet_step (fail))
      refine wpQuiet_nil ?_
      refine stage_nil fun w5 hm6 => ?_
      have u5 := hm6.at u0 (by simp)
      have qt5 := hm6.at qt4 (by simp)
      have hF5 := hF4.mod hm6
      have r5 := row_mod hr2 hm6 (by simp)
      have hm7 := hm5.nil_then hm6
      have hFw := (fields_cells hF5).1
      have hwt := lt_of qt5
      have hwu := lt_of u5
      clear j1 u0 qt4 hF4 hr2 hm5 hm6 hidx hne
      obtain ⟨e1, e2⟩ := fcells_at fs idx hil
      have d1 := (r5.cellAt (idx * 2) (by omega)).trans e1
      have d2 := (r5.cellAt (idx * 2 + 1) (by omega)).trans e2
      have d3 := r5.frozenAt (idx * 2)
      have d4 := r5.frozenAt (idx * 2 + 1)
      have r6 := ((r5.stored (idx * 2) (.int .i64 (kd % 9 - 1))).1.stored (idx * 2 + 1) (.int .i64 ct)).1
      rw [fcells_set fs idx _ _ hil] at r6
      have hmg := ((Mod.refl [g2] w5).setCell (p := ⟨g2, idx * 2, none⟩) (.inl (by simp)) (.int .i64 (kd % 9 - 1))).setCell (p := ⟨g2, idx * 2 + 1, none⟩) (.inl (by simp)) (.int .i64 ct)
      have hT2 : T ≠ g2 := by omega
      have q6 := hmg.at qt5 (by simpa using hT2)
      have u6 := hmg.at u5 (by simpa using Ne.symm hw6)
      have hF6 := hF5.modS hmg (fun x hx => by have hx' : some g = some x := hx; obtain rfl := Option.some.inj hx'; simp; omega)
      have hm8 := hm7.then hmg (fun z hz => .inr (by rw [List.mem_singleton.1 hz]; have := hm7.size; omega))
      have cq := cells_of qt5
      have cq6 := cells_of q6
      clear e1 e2 r5 hF5 hmg hm7 u5 qt5
      go_wp2_with fail
      have hsz6 : ((w5.setCell ⟨g2, idx * 2, none⟩ (.int .i64 (kd % 9 - 1))).setCell ⟨g2, idx * 2 + 1, none⟩ (.int .i64 ct)).heap.size = w5.heap.size := by simp [World.setCell]
      generalize (w5.setCell ⟨g2, idx * 2, none⟩ (.int .i64 (kd % 9 - 1))).setCell ⟨g2, idx * 2 + 1, none⟩ (.int .i64 ct) = W6 at *
      have v7 := at_alloc W6 (.cells #[.int .i64 ln, .slice (some ⟨g, 0, none⟩) 1 cap] 24)
      rw [hsz6] at v7
      have u7 := at_alloc_old (o := .cells #[.int .i64 ln, .slice (some ⟨g, 0, none⟩) 1 cap] 24) u6
      have q7 := at_alloc_old (o := .cells #[.int .i64 ln, .slice (some ⟨g, 0, none⟩) 1 cap] 24) q6
      have hFt := hF6.mod ((Mod.refl [] W6).alloc (.cells #[.int .i64 ln, .slice (some ⟨g, 0, none⟩) 1 cap] 24))
      have hFu := (row_fields r6 (by simp)).mod ((Mod.refl [] W6).alloc (.cells #[.int .i64 ln, .slice (some ⟨g, 0, none⟩) 1 cap] 24))
      have hFv := fields_take1 hFt hl1.1
      have hm9 := hm8.alloc (.cells #[.int .i64 ln, .slice (some ⟨g, 0, none⟩) 1 cap] 24)
      generalize W6.alloc (.cells #[.int .i64 ln, .slice (some ⟨g, 0, none⟩) 1 cap] 24) = W7 at *
      have z1 := Lib.hid fun (w' : World) (h : Mod [] W7 w') => same_ok len _ _ i w' (hFt.mod h) hlen.1 hlen.2
      have z2 := Lib.hid fun (w' : World) (h : Mod [] W7 w') => same_ok len _ _ i w' (hFu.mod h) hlen.1 hlen.2
      have z3 := Lib.hid fun (w' : World) (h : Mod [] W7 w') => same_ok ln _ _ i w' (hFv.mod h) (by omega) (by omega)
      clear hFt hFu hFv r6 hF6 q6 u6 cq cq6 d1 d2 d3 d4 hm8
      refine (awake_ok _).mono ?_
      rintro e w10 ⟨rfl, hm10⟩
      have cb := cells_of (hm10.at q7 (by simp))
      go_wp2_with fail
      refine (z1.out _ hm10).mono ?_
      rintro e w11 ⟨rfl, hm11⟩
      have hm11 := hm10.nil_then hm11
      clear cb
      have cb := cells_of (hm11.at u7 (by simp))
      go_wp2_with fail
      refine (z2.out _ hm11).mono ?_
      rintro e w12 ⟨rfl, hm12⟩
      have hm12 := hm11.nil_then hm12
      clear cb
      have cb := cells_of (hm12.at v7 (by simp))
      go_wp2_with fail
      refine (z3.out _ hm12).mono ?_
      rintro e w13 ⟨rfl, hm13⟩
      go_wp2_with fail
      go_ret
      exact ⟨rfl, (hm9.nil_then hm12).nil_then hm13⟩
end Go.Proofs.Ytlnlclaoajjcbaa
