/- TyperegOwn: the walk of the law. -/
import Derived.Test.YtkkjlioigdpacaaRegP
import Derived.Test.YtkkjlioigdpacaaMade
namespace Go.Proofs.Ytkkjlioigdpacaa
open Go Go.RowKit Go.Stg

theorem lt_of_fields {w : World} {g n cap : Nat} {fs : List Fld} (h : FieldsAt w (.slice (some ⟨g, 0, none⟩) n cap) fs) : g < w.heap.size := by
  rcases h with ⟨h, _⟩ | ⟨sb, so, cap', e, h2, _⟩
  · simp at h
  · simp at e
    obtain ⟨⟨rfl, _⟩, _⟩ := e
    exact h2
set_option maxHeartbeats 8000000 in
set_option maxRecDepth 10000 in
theorem own_walk (lv : Value) (xs : List Int) (by' : Int) (k0 : 0 ≤ by') (k1 : by' ≤ 255) (w : World) (h : NumsAt w lv xs) :
    Calls Try.prog 4 #[lv, .int .u8 by'] w fun e w' => e = .returned (.bool true) ∧ Mod [] w w' := by
  obtain ⟨f0, hi0, hz0, hz1, hz2⟩ := info_parts info_field
  have hO := Lib.hid (of_ok lv xs 30 (by omega) w h)
  clear h
  go_enter Try.func4, Try.ntmps4
  go_wp2_with fail
  refine hO.out.mono ?_
  rintro e w1 ⟨b, rfl, hm1, hT1, hb1⟩
  go_wp2_with fail
  refine (type_next b 0 _ _ w1 hT1 (by omega)).mono ?_
  rintro e w2 ⟨len, g, cap, fs, rfl, hF, hM, hcap, hm2, hg, -, hrow⟩
  have hm2 := hm1.then hm2 (fun z hz => .inr (by rw [List.mem_singleton.1 hz]; exact hb1))
  have hSW := ((Scene.empty w).add (c := rowC (.slice (some ⟨g, 0, none⟩) fs.length cap) fs.length 28 2 (fcells fs)) (f := [g]) hm2 ⟨hrow, rfl⟩ (fun x hx => by rw [List.mem_singleton.1 hx]; exact Nat.le_trans hm1.size hg)).alloc (.cells #[.int .i64 len, .slice (some ⟨g, 0, none⟩) fs.length cap] 31)
  clear hO hT1 hm1 hb1 hF hrow
  have herr := Lib.hid (made_err hM)
  obtain ⟨l1, l2, l3, l4⟩ := made_bounds hM
  have hlen : -9223372036854775808 ≤ len ∧ len ≤ 9223372036854775807 := by omega
  clear hM
  have q0 := hSW.block 0 rfl
  have hF := row_fields (hSW.row 1 rfl) rfl
  have hgw := lt_of_fields hF
  go_wp2_with fail
  generalize hbT : w2.heap.size = T at *
  generalize w2.alloc (.cells #[.int .i64 len, .slice (some ⟨g, 0, none⟩) fs.length cap] 31) = W at *
  have hSW := Lib.hid hSW
  clear hbT hm2 hg
  have hcel := fields_cells hF
  have h63 : 0 + fs.length ≤ maxLen := by unfold maxLen; omega
  have hby : (0 + fs.length) * 16 ≤ 140737488355328 := by omega
  have g0 := GW.cells (S := []) q0 (by simp)
  refine wp_region_float 7 _ (fun w' => ∃ x : GW [] W, w' = x.1) (fun w' => Mod [] W w') (by kernel_rfl) rfl rfl (by kernel_rfl) (by kernel_rfl) (fun _ h => InGW.of h) (Mod.refl _ _).drew ?_
  dsimp only [List.getElem_toArray, List.getElem_cons_succ, List.getElem_cons_zero]
  refine float_quiet 2 (by kernel_rfl) (by decide) ?_
  simp only [List.take_succ_cons, List.take_zero, List.drop_succ_cons, List.drop_zero, Nat.reduceAdd]
  repeat (go_big_quiet_step (fail))
  refine wpQuiet_nil ?_
  refine float_eff (by decide) rfl rfl ?A rfl (by simp) ?B
  case A =>
    refine eff_alloc (fun s => .slice (some ⟨s, 0, none⟩) 0 0) (.cells #[] 28 (0, 0)) (fun s w' => Mod [] W w' ∧ W.heap.size ≤ s ∧ w'.heap[s]? = some (.cells #[] 28 (0, 0))) (by intro s s' h; simpa using h) (fun w' hw => ?_) (fun w' hw => ⟨hw.alloc _, hw.size, at_alloc _ _⟩) (fun s w' h => InGW.of h.1) (fun s => ?_)
    · kernel_rfl
    simp only [Act.put, List.setIfInBounds_toArray, List.set_cons_succ, List.set_cons_zero]
    refine float_quiet 2 (by kernel_rfl) (by decide) ?_
    simp only [List.take_succ_cons, List.take_zero, List.drop_succ_cons, List.drop_zero, Nat.reduceAdd]
    repeat (go_big_quiet_step (fail))
    refine wpQuiet_nil ?_
    refine float_eff (by decide) rfl rfl ?A2 rfl (by simp) ?B2
    case A2 =>
      refine eff_any (fun v => ∃ g2 cap2, v = .slice (some ⟨g2, 0, none⟩) fs.length cap2) (fun v w' => Mod [] W w' ∧ w'.ownsRow 0 28 2 v fs.length (fcells fs) ∧ ∀ y, v.ownBlock = some y → W.heap.size ≤ y) ⟨_, 0, 0, rfl⟩ (fun w' hw => ?_) (fun v w' h => InGW.of h.1) (fun v hv => ?_)
      · obtain ⟨hw1, hw2, hw3⟩ := hw
        have hcw : ∀ j u, (fcells fs)[j]? = some u → w'.cell? ((⟨g, 0, none⟩ : Addr).add j) = some u := fun j u hj => by
          have := hcel j u hj
          rw [add_at] at this ⊢
          rw [cell_mod hw1 hgw (by simp)]
          exact this
        have hown : w'.ownsRow 0 28 2 (.slice (some ⟨s, 0, none⟩) 0 0) 0 [] := ⟨rfl, .inr ⟨s, 0, #[], rfl, Nat.zero_le _, hw3, Nat.le_refl _, Nat.zero_le _, rfl, rfl⟩⟩
        obtain ⟨v', w3, hr, h2, h3, h4⟩ := run_append_row (P := Try.prog) w' 29 29 28 f0 (.agg #[.int .i64 0, .int .i64 0]) 2 16 Try.underlying29 hi0 hz0 hz1 hz2 rfl (by decide) (.slice (some ⟨s, 0, none⟩) 0 0) 0 [] hown ⟨g, 0, none⟩ fs.length cap (fcells fs) (fcells_length fs) hcw (fcells_oneCell fs) h63 hby
        simp only [Nat.zero_add, List.nil_append] at h2
        obtain ⟨g', cap', rfl, _, _⟩ := row_pos h2 (by omega)
        have hrow3 : ∀ k, (Value.slice (some ⟨s, 0, none⟩) 0 0).ownBlock = some k → k = s := fun k hk => by
          have hk' : some s = some k := hk
          exact (Option.some.inj hk').symm
        have hmod3 : Mod [] W w3 := hw1.grown h3 (fun k hk => .inr (by rw [hrow3 k hk]; exact hw2))
        have hge3 : ∀ y, (Value.slice (some ⟨g', 0, none⟩) fs.length cap').ownBlock = some y → W.heap.size ≤ y := fun y hy => by
          rcases h4 y hy with h | h
          · rw [hrow3 y h]; exact hw2
          · exact Nat.le_trans hw1.size h
        exact ⟨_, w3, exec_append _ _ 29 rfl rfl rfl hr, ⟨g', cap', rfl⟩, hmod3, h2, hge3⟩
      simp only [Act.put, List.setIfInBounds_toArray, List.set_cons_succ, List.set_cons_zero]
      obtain ⟨g2, cap2, rfl⟩ := hv
      refine float_quiet 1 (by kernel_rfl) (by decide) ?_
      simp only [List.take_succ_cons, List.take_zero, List.drop_succ_cons, List.drop_zero, Nat.reduceAdd]
      repeat (go_big_quiet_step (fail))
      refine wpQuiet_nil ?_
      refine float_here ?_
      refine stage_alloc (fun p => .pointer (some ⟨p, 0, none⟩)) (.cells #[.int .i64 0, .slice none 0 0] 31 (0, 0)) (fun p w' => Mod [] W w' ∧ w'.ownsRow 0 28 2 (.slice (some ⟨g2, 0, none⟩) fs.length cap2) fs.length (fcells fs) ∧ (∀ y, (Value.slice (some ⟨g2, 0, none⟩) fs.length cap2).ownBlock = some y → W.heap.size ≤ y) ∧ W.heap.size ≤ p ∧ w'.heap[p]? = some (.cells #[.int .i64 0, .slice none 0 0] 31 (0, 0)) ∧ ∀ y, (Value.slice (some ⟨g2, 0, none⟩) fs.length cap2).ownBlock = some y → y ≠ p) (by intro s s' h; simpa using h) rfl rfl (fun w' hw => ?_) (fun w' hw => ⟨hw.1.alloc _, row_mod hw.2.1 ((Mod.refl [] w').alloc _) (by simp), hw.2.2, hw.1.size, at_alloc _ _, fun y hy => by have := (hw.2.1.lt y hy).2; omega⟩) (fun s w' h => InGW.of h.1) (fun p => ?_)
      · kernel_rfl
      simp only [Act.put, List.setIfInBounds_toArray, List.set_cons_succ, List.set_cons_zero]
      refine stage_store (p := ⟨p, 0, none⟩) (u := .agg #[.int .i64 len, .slice (some ⟨g2, 0, none⟩) fs.length cap2]) (fun w' => (w'.setCell ⟨p, 0, none⟩ (.int .i64 len)).setCell ⟨p, 1, none⟩ (.slice (some ⟨g2, 0, none⟩) fs.length cap2)) rfl rfl (by kernel_rfl) rfl rfl rfl (fun w' hw => ?_) (fun w' hw => ?_)
      · have d1 := cells_of hw.2.2.2.2.1
        have d2 := frozen_of hw.2.2.2.2.1
        clear g0 hw
        go_simp
      · obtain ⟨hw1, hw2, hw3, hw4, hw5, hw6⟩ := hw
        have hw3 := hw3 g2 rfl
        have hw6 := hw6 g2 rfl
        have u0 : ((w'.setCell ⟨p, 0, none⟩ (.int .i64 len)).setCell ⟨p, 1, none⟩ (.slice (some ⟨g2, 0, none⟩) fs.length cap2)).heap[p]? = some (.cells #[.int .i64 len, .slice (some ⟨g2, 0, none⟩) fs.length cap2] 31 (0, 0)) := by simpa using at_setCell (o := 1) (v := .slice (some ⟨g2, 0, none⟩) fs.length cap2) (at_setCell (o := 0) (v := .int .i64 len) hw5)
        have hmp := ((Mod.refl [p] w').setCell (p := ⟨p, 0, none⟩) (.inl (by simp)) (.int .i64 len)).setCell (p := ⟨p, 1, none⟩) (.inl (by simp)) (.slice (some ⟨g2, 0, none⟩) fs.length cap2)
        have hr2 := row_mod hw2 hmp (fun x hx => by have hx' : some g2 = some x := hx; obtain rfl := Option.some.inj hx'; simpa using hw6)
        have hm4 := hw1.then hmp (fun z hz => .inr (by rw [List.mem_singleton.1 hz]; exact hw4))
        generalize (w'.setCell ⟨p, 0, none⟩ (.int .i64 len)).setCell ⟨p, 1, none⟩ (.slice (some ⟨g2, 0, none⟩) fs.length cap2) = W4 at *
        have hS4 := (hSW.out.add (c := Comp.all [rowC (.slice (some ⟨g2, 0, none⟩) fs.length cap2) fs.length 28 2 (fcells fs), blockC p (.cells #[.int .i64 len, .slice (some ⟨g2, 0, none⟩) fs.length cap2] 31 (0, 0))]) (f := [g2] ++ ([p] ++ [])) hm4 ⟨[g2], [p] ++ [], ⟨hr2, rfl⟩, ⟨[p], [], ⟨u0, rfl⟩, rfl, by simp, rfl⟩, by simpa using hw6, rfl⟩ (fun x hx => by
          simp at hx
          rcases hx with rfl | rfl
          · exact hw3
          · exact hw4)).split
        have hS4H := Lib.hid hS4
        clear hw1 hw2 hw5 hmp g0 hr2 hm4 u0 hS4 hF hcel q0 hw3 hw4 hw6 hSW
        go_wp2_with fail
        refine (sc_new hS4H.out).mono ?_
        rintro e w5 ⟨rb, rfl, _, hS5⟩
        have hS5H := Lib.hid hS5
        have c3 := cells_of (hS5.block 3 rfl)
        clear hS5 hS4H
        go_wp2_with fail
        obtain ⟨k1, k2⟩ := reg_new (R := []) (t := (len, fs)) herr.out (by simp) (by simp)
        refine (sc_register 0 hS5H.out rfl (row_fields (hS5H.out.row 4 rfl) rfl) hlen.1 hlen.2).mono ?_
        rintro e w6 ⟨rfl, hS6⟩
        rw [k2]
        rw [k1] at hS6
        simp only [List.length_nil, Int.zero_add, Int.cast_ofNat_Int] at *
        have hS6H := Lib.hid hS6
        have c3 := cells_of (hS6.block 3 rfl)
        have hr := hS6.row 4 rfl
        have c0 := hr.cellAt 0 (by omega)
        have f0' := hr.frozenAt 0
        have hfc := fcells_at fs 0 (by omega)
        rw [Nat.zero_mul] at hfc
        rw [hfc.1] at c0
        clear hS6 hS5H k1 k2 hr hfc
        go_wp2_with fail
        have hS7 := hS6H.out.spoil 4 rfl (b := g) (fun f h => by rw [h.2]; simp [Value.ownBlock]) 0 (.int .i64 by')
        have hS7H := Lib.hid hS7
        have t1 : lookT ([] ++ [(len, fs)]) 1 = (len, fs) := by simp [lookT]
        have t2 : lookE ([] ++ [(len, fs)]) 1 = 0 := by simp [lookE]
        have hL := Lib.hid (sc_lookup 0 hS7 rfl 1)
        clear hS7 hS6H c0 f0' c3
        generalize w6.setCell ⟨g, 0, none⟩ (.int .i64 by') = W6 at *
        refine hL.out.mono ?_
        rintro e w7 ⟨v7, rfl, hF7, hm7⟩
        rw [t1] at hF7 ⊢
        rw [t2]
        obtain ⟨ya, ym, yc, rfl⟩ := hF7.slice
        have hm7a := hm7.alloc (.cells #[.int .i64 len, .slice ya ym yc] 31)
        have b7 := Lib.hid (at_alloc w7 (.cells #[.int .i64 len, .slice ya ym yc] 31))
        have hF7H := Lib.hid (hF7.mod ((Mod.refl [] w7).alloc (.cells #[.int .i64 len, .slice ya ym yc] 31)))
        have hS8 := Lib.hid (hS7H.out.then hm7a)
        clear hL hF7 hm7 hm7a t1 t2 hS7H
        go_wp2_with fail
        refine (awake_ok _).mono ?_
        rintro e w9 ⟨rfl, hm9⟩
        have hS9 := hS8.out.then hm9
        have c7 := cells_of (hm9.at b7.out (by simp))
        have c2 := cells_of (hS9.block 2 rfl)
        have hF9 := Lib.hid (hF7H.out.mod hm9)
        have hFw := Lib.hid (row_fields (hS9.row 1 rfl) rfl)
        have hS9H := Lib.hid hS9
        clear hS8 hm9 hS9 b7 hF7H
        go_wp2_with fail
        refine (rsame_ok len len _ _ fs fs _ hF9.out hFw.out).mono ?_
        rintro e w10 ⟨rfl, hm10⟩
        have hz : decide (len = len ∧ fs = fs) = true := by simp
        rw [hz]
        have hmm := hS9H.out.mod.nil_then hm10
        clear hS9H hm10 hz hF9 hFw
        go_wp2_with fail
        go_ret
        exact ⟨rfl, hmm⟩
    case B2 =>
      simp only [Nat.reduceSub, List.eraseIdx_cons_succ, List.eraseIdx_cons_zero]
      refine stage_alloc (fun p => .pointer (some ⟨p, 0, none⟩)) (.cells #[.int .i64 0, .slice none 0 0] 31 (0, 0)) (fun p w' => Mod [] W w' ∧ W.heap.size ≤ s ∧ w'.heap[s]? = some (.cells #[] 28 (0, 0)) ∧ W.heap.size ≤ p ∧ w'.heap[p]? = some (.cells #[.int .i64 0, .slice none 0 0] 31 (0, 0)) ∧ s ≠ p) (by intro s s' h; simpa using h) rfl rfl (fun w' hw => ?_) (fun w' hw => ⟨hw.1.alloc _, hw.2.1, at_alloc_old hw.2.2, hw.1.size, at_alloc _ _, by have := lt_of hw.2.2; omega⟩) (fun s w' h => InGW.of h.1) (fun p => ?_)
      · kernel_rfl
      simp only [Act.put, List.setIfInBounds_toArray, List.set_cons_succ, List.set_cons_zero]
      refine stage_any (fun v => ∃ g2 cap2, v = .slice (some ⟨g2, 0, none⟩) fs.length cap2) (fun v w' => Mod [] W w' ∧ w'.ownsRow 0 28 2 v fs.length (fcells fs) ∧ (∀ y, v.ownBlock = some y → W.heap.size ≤ y) ∧ W.heap.size ≤ p ∧ w'.heap[p]? = some (.cells #[.int .i64 0, .slice none 0 0] 31 (0, 0)) ∧ ∀ y, v.ownBlock = some y → y ≠ p) rfl rfl ⟨_, 0, 0, rfl⟩ (fun w' hw => ?_) (fun v w' h => InGW.of h.1) (fun v hv => ?_)
      · obtain ⟨hw1, hw2, hw3, hwp, hwq, hwsp⟩ := hw
        have hcw : ∀ j u, (fcells fs)[j]? = some u → w'.cell? ((⟨g, 0, none⟩ : Addr).add j) = some u := fun j u hj => by
          have := hcel j u hj
          rw [add_at] at this ⊢
          rw [cell_mod hw1 hgw (by simp)]
          exact this
        have hown : w'.ownsRow 0 28 2 (.slice (some ⟨s, 0, none⟩) 0 0) 0 [] := ⟨rfl, .inr ⟨s, 0, #[], rfl, Nat.zero_le _, hw3, Nat.le_refl _, Nat.zero_le _, rfl, rfl⟩⟩
        obtain ⟨v', w3, hr, h2, h3, h4⟩ := run_append_row (P := Try.prog) w' 29 29 28 f0 (.agg #[.int .i64 0, .int .i64 0]) 2 16 Try.underlying29 hi0 hz0 hz1 hz2 rfl (by decide) (.slice (some ⟨s, 0, none⟩) 0 0) 0 [] hown ⟨g, 0, none⟩ fs.length cap (fcells fs) (fcells_length fs) hcw (fcells_oneCell fs) h63 hby
        simp only [Nat.zero_add, List.nil_append] at h2
        obtain ⟨g', cap', rfl, _, _⟩ := row_pos h2 (by omega)
        have hrow3 : ∀ k, (Value.slice (some ⟨s, 0, none⟩) 0 0).ownBlock = some k → k = s := fun k hk => by
          have hk' : some s = some k := hk
          exact (Option.some.inj hk').symm
        have hmod3 : Mod [] W w3 := hw1.grown h3 (fun k hk => .inr (by rw [hrow3 k hk]; exact hw2))
        have hge3 : ∀ y, (Value.slice (some ⟨g', 0, none⟩) fs.length cap').ownBlock = some y → W.heap.size ≤ y := fun y hy => by
          rcases h4 y hy with h | h
          · rw [hrow3 y h]; exact hw2
          · exact Nat.le_trans hw1.size h
        have hne3 : ∀ y, (Value.slice (some ⟨g', 0, none⟩) fs.length cap').ownBlock = some y → y ≠ p := fun y hy => by
          rcases h4 y hy with h | h
          · rw [hrow3 y h]; exact hwsp
          · have := lt_of hwq; omega
        exact ⟨_, w3, exec_append _ _ 29 rfl rfl rfl hr, ⟨g', cap', rfl⟩, hmod3, h2, hge3, hwp, (h3.block p (lt_of hwq) (fun e => hwsp (hrow3 p e.symm).symm)).trans hwq, hne3⟩
      simp only [Act.put, List.setIfInBounds_toArray, List.set_cons_succ, List.set_cons_zero]
      obtain ⟨g2, cap2, rfl⟩ := hv
      refine stage_quiet 1 (by kernel_rfl) ?_
      simp only [List.take_succ_cons, List.take_zero, List.drop_succ_cons, List.drop_zero]
      repeat (go_big_quiet_step (fail))
      refine wpQuiet_nil ?_
      refine stage_store (p := ⟨p, 0, none⟩) (u := .agg #[.int .i64 len, .slice (some ⟨g2, 0, none⟩) fs.length cap2]) (fun w' => (w'.setCell ⟨p, 0, none⟩ (.int .i64 len)).setCell ⟨p, 1, none⟩ (.slice (some ⟨g2, 0, none⟩) fs.length cap2)) rfl rfl (by kernel_rfl) rfl rfl rfl (fun w' hw => ?_) (fun w' hw => ?_)
      · have d1 := cells_of hw.2.2.2.2.1
        have d2 := frozen_of hw.2.2.2.2.1
        clear g0 hw
        go_simp
      · obtain ⟨hw1, hw2, hw3, hw4, hw5, hw6⟩ := hw
        have hw3 := hw3 g2 rfl
        have hw6 := hw6 g2 rfl
        have u0 : ((w'.setCell ⟨p, 0, none⟩ (.int .i64 len)).setCell ⟨p, 1, none⟩ (.slice (some ⟨g2, 0, none⟩) fs.length cap2)).heap[p]? = some (.cells #[.int .i64 len, .slice (some ⟨g2, 0, none⟩) fs.length cap2] 31 (0, 0)) := by simpa using at_setCell (o := 1) (v := .slice (some ⟨g2, 0, none⟩) fs.length cap2) (at_setCell (o := 0) (v := .int .i64 len) hw5)
        have hmp := ((Mod.refl [p] w').setCell (p := ⟨p, 0, none⟩) (.inl (by simp)) (.int .i64 len)).setCell (p := ⟨p, 1, none⟩) (.inl (by simp)) (.slice (some ⟨g2, 0, none⟩) fs.length cap2)
        have hr2 := row_mod hw2 hmp (fun x hx => by have hx' : some g2 = some x := hx; obtain rfl := Option.some.inj hx'; simpa using hw6)
        have hm4 := hw1.then hmp (fun z hz => .inr (by rw [List.mem_singleton.1 hz]; exact hw4))
        generalize (w'.setCell ⟨p, 0, none⟩ (.int .i64 len)).setCell ⟨p, 1, none⟩ (.slice (some ⟨g2, 0, none⟩) fs.length cap2) = W4 at *
        have hS4 := (hSW.out.add (c := Comp.all [rowC (.slice (some ⟨g2, 0, none⟩) fs.length cap2) fs.length 28 2 (fcells fs), blockC p (.cells #[.int .i64 len, .slice (some ⟨g2, 0, none⟩) fs.length cap2] 31 (0, 0))]) (f := [g2] ++ ([p] ++ [])) hm4 ⟨[g2], [p] ++ [], ⟨hr2, rfl⟩, ⟨[p], [], ⟨u0, rfl⟩, rfl, by simp, rfl⟩, by simpa using hw6, rfl⟩ (fun x hx => by
          simp at hx
          rcases hx with rfl | rfl
          · exact hw3
          · exact hw4)).split
        have hS4H := Lib.hid hS4
        clear hw1 hw2 hw5 hmp g0 hr2 hm4 u0 hS4 hF hcel q0 hw3 hw4 hw6 hSW
        go_wp2_with fail
        refine (sc_new hS4H.out).mono ?_
        rintro e w5 ⟨rb, rfl, _, hS5⟩
        have hS5H := Lib.hid hS5
        have c3 := cells_of (hS5.block 3 rfl)
        clear hS5 hS4H
        go_wp2_with fail
        obtain ⟨k1, k2⟩ := reg_new (R := []) (t := (len, fs)) herr.out (by simp) (by simp)
        refine (sc_register 0 hS5H.out rfl (row_fields (hS5H.out.row 4 rfl) rfl) hlen.1 hlen.2).mono ?_
        rintro e w6 ⟨rfl, hS6⟩
        rw [k2]
        rw [k1] at hS6
        simp only [List.length_nil, Int.zero_add, Int.cast_ofNat_Int] at *
        have hS6H := Lib.hid hS6
        have c3 := cells_of (hS6.block 3 rfl)
        have hr := hS6.row 4 rfl
        have c0 := hr.cellAt 0 (by omega)
        have f0' := hr.frozenAt 0
        have hfc := fcells_at fs 0 (by omega)
        rw [Nat.zero_mul] at hfc
        rw [hfc.1] at c0
        clear hS6 hS5H k1 k2 hr hfc
        go_wp2_with fail
        have hS7 := hS6H.out.spoil 4 rfl (b := g) (fun f h => by rw [h.2]; simp [Value.ownBlock]) 0 (.int .i64 by')
        have hS7H := Lib.hid hS7
        have t1 : lookT ([] ++ [(len, fs)]) 1 = (len, fs) := by simp [lookT]
        have t2 : lookE ([] ++ [(len, fs)]) 1 = 0 := by simp [lookE]
        have hL := Lib.hid (sc_lookup 0 hS7 rfl 1)
        clear hS7 hS6H c0 f0' c3
        generalize w6.setCell ⟨g, 0, none⟩ (.int .i64 by') = W6 at *
        refine hL.out.mono ?_
        rintro e w7 ⟨v7, rfl, hF7, hm7⟩
        rw [t1] at hF7 ⊢
        rw [t2]
        obtain ⟨ya, ym, yc, rfl⟩ := hF7.slice
        have hm7a := hm7.alloc (.cells #[.int .i64 len, .slice ya ym yc] 31)
        have b7 := Lib.hid (at_alloc w7 (.cells #[.int .i64 len, .slice ya ym yc] 31))
        have hF7H := Lib.hid (hF7.mod ((Mod.refl [] w7).alloc (.cells #[.int .i64 len, .slice ya ym yc] 31)))
        have hS8 := Lib.hid (hS7H.out.then hm7a)
        clear hL hF7 hm7 hm7a t1 t2 hS7H
        go_wp2_with fail
        refine (awake_ok _).mono ?_
        rintro e w9 ⟨rfl, hm9⟩
        have hS9 := hS8.out.then hm9
        have c7 := cells_of (hm9.at b7.out (by simp))
        have c2 := cells_of (hS9.block 2 rfl)
        have hF9 := Lib.hid (hF7H.out.mod hm9)
        have hFw := Lib.hid (row_fields (hS9.row 1 rfl) rfl)
        have hS9H := Lib.hid hS9
        clear hS8 hm9 hS9 b7 hF7H
        go_wp2_with fail
        refine (rsame_ok len len _ _ fs fs _ hF9.out hFw.out).mono ?_
        rintro e w10 ⟨rfl, hm10⟩
        have hz : decide (len = len ∧ fs = fs) = true := by simp
        rw [hz]
        have hmm := hS9H.out.mod.nil_then hm10
        clear hS9H hm10 hz hF9 hFw
        go_wp2_with fail
        go_ret
        exact ⟨rfl, hmm⟩
  case B =>
    simp only [Nat.reduceSub, List.eraseIdx_cons_succ, List.eraseIdx_cons_zero]
    refine stage_alloc (fun p => .pointer (some ⟨p, 0, none⟩)) (.cells #[.int .i64 0, .slice none 0 0] 31 (0, 0)) (fun p w' => Mod [] W w' ∧ W.heap.size ≤ p ∧ w'.heap[p]? = some (.cells #[.int .i64 0, .slice none 0 0] 31 (0, 0))) (by intro s s' h; simpa using h) rfl rfl (fun w' hw => ?_) (fun w' hw => ⟨hw.alloc _, hw.size, at_alloc _ _⟩) (fun s w' h => InGW.of h.1) (fun p => ?_)
    · kernel_rfl
    simp only [Act.put, List.setIfInBounds_toArray, List.set_cons_succ, List.set_cons_zero]
    refine stage_alloc (fun s => .slice (some ⟨s, 0, none⟩) 0 0) (.cells #[] 28 (0, 0)) (fun s w' => Mod [] W w' ∧ W.heap.size ≤ s ∧ w'.heap[s]? = some (.cells #[] 28 (0, 0)) ∧ W.heap.size ≤ p ∧ w'.heap[p]? = some (.cells #[.int .i64 0, .slice none 0 0] 31 (0, 0)) ∧ s ≠ p) (by intro s s' h; simpa using h) rfl rfl (fun w' hw => ?_) (fun w' hw => ⟨hw.1.alloc _, hw.1.size, at_alloc _ _, hw.2.1, at_alloc_old hw.2.2, by have := lt_of hw.2.2; omega⟩) (fun s w' h => InGW.of h.1) (fun s => ?_)
    · kernel_rfl
    simp only [Act.put, List.setIfInBounds_toArray, List.set_cons_succ, List.set_cons_zero]
    refine stage_quiet 2 (by kernel_rfl) ?_
    simp only [List.take_succ_cons, List.take_zero, List.drop_succ_cons, List.drop_zero]
    repeat (go_big_quiet_step (fail))
    refine wpQuiet_nil ?_
    refine stage_any (fun v => ∃ g2 cap2, v = .slice (some ⟨g2, 0, none⟩) fs.length cap2) (fun v w' => Mod [] W w' ∧ w'.ownsRow 0 28 2 v fs.length (fcells fs) ∧ (∀ y, v.ownBlock = some y → W.heap.size ≤ y) ∧ W.heap.size ≤ p ∧ w'.heap[p]? = some (.cells #[.int .i64 0, .slice none 0 0] 31 (0, 0)) ∧ ∀ y, v.ownBlock = some y → y ≠ p) rfl rfl ⟨_, 0, 0, rfl⟩ (fun w' hw => ?_) (fun v w' h => InGW.of h.1) (fun v hv => ?_)
    · obtain ⟨hw1, hw2, hw3, hwp, hwq, hwsp⟩ := hw
      have hcw : ∀ j u, (fcells fs)[j]? = some u → w'.cell? ((⟨g, 0, none⟩ : Addr).add j) = some u := fun j u hj => by
        have := hcel j u hj
        rw [add_at] at this ⊢
        rw [cell_mod hw1 hgw (by simp)]
        exact this
      have hown : w'.ownsRow 0 28 2 (.slice (some ⟨s, 0, none⟩) 0 0) 0 [] := ⟨rfl, .inr ⟨s, 0, #[], rfl, Nat.zero_le _, hw3, Nat.le_refl _, Nat.zero_le _, rfl, rfl⟩⟩
      obtain ⟨v', w3, hr, h2, h3, h4⟩ := run_append_row (P := Try.prog) w' 29 29 28 f0 (.agg #[.int .i64 0, .int .i64 0]) 2 16 Try.underlying29 hi0 hz0 hz1 hz2 rfl (by decide) (.slice (some ⟨s, 0, none⟩) 0 0) 0 [] hown ⟨g, 0, none⟩ fs.length cap (fcells fs) (fcells_length fs) hcw (fcells_oneCell fs) h63 hby
      simp only [Nat.zero_add, List.nil_append] at h2
      obtain ⟨g', cap', rfl, _, _⟩ := row_pos h2 (by omega)
      have hrow3 : ∀ k, (Value.slice (some ⟨s, 0, none⟩) 0 0).ownBlock = some k → k = s := fun k hk => by
        have hk' : some s = some k := hk
        exact (Option.some.inj hk').symm
      have hmod3 : Mod [] W w3 := hw1.grown h3 (fun k hk => .inr (by rw [hrow3 k hk]; exact hw2))
      have hge3 : ∀ y, (Value.slice (some ⟨g', 0, none⟩) fs.length cap').ownBlock = some y → W.heap.size ≤ y := fun y hy => by
        rcases h4 y hy with h | h
        · rw [hrow3 y h]; exact hw2
        · exact Nat.le_trans hw1.size h
      have hne3 : ∀ y, (Value.slice (some ⟨g', 0, none⟩) fs.length cap').ownBlock = some y → y ≠ p := fun y hy => by
        rcases h4 y hy with h | h
        · rw [hrow3 y h]; exact hwsp
        · have := lt_of hwq; omega
      exact ⟨_, w3, exec_append _ _ 29 rfl rfl rfl hr, ⟨g', cap', rfl⟩, hmod3, h2, hge3, hwp, (h3.block p (lt_of hwq) (fun e => hwsp (hrow3 p e.symm).symm)).trans hwq, hne3⟩
    simp only [Act.put, List.setIfInBounds_toArray, List.set_cons_succ, List.set_cons_zero]
    obtain ⟨g2, cap2, rfl⟩ := hv
    refine stage_quiet 1 (by kernel_rfl) ?_
    simp only [List.take_succ_cons, List.take_zero, List.drop_succ_cons, List.drop_zero]
    repeat (go_big_quiet_step (fail))
    refine wpQuiet_nil ?_
    refine stage_store (p := ⟨p, 0, none⟩) (u := .agg #[.int .i64 len, .slice (some ⟨g2, 0, none⟩) fs.length cap2]) (fun w' => (w'.setCell ⟨p, 0, none⟩ (.int .i64 len)).setCell ⟨p, 1, none⟩ (.slice (some ⟨g2, 0, none⟩) fs.length cap2)) rfl rfl (by kernel_rfl) rfl rfl rfl (fun w' hw => ?_) (fun w' hw => ?_)
    · have d1 := cells_of hw.2.2.2.2.1
      have d2 := frozen_of hw.2.2.2.2.1
      clear g0 hw
      go_simp
    · obtain ⟨hw1, hw2, hw3, hw4, hw5, hw6⟩ := hw
      have hw3 := hw3 g2 rfl
      have hw6 := hw6 g2 rfl
      have u0 : ((w'.setCell ⟨p, 0, none⟩ (.int .i64 len)).setCell ⟨p, 1, none⟩ (.slice (some ⟨g2, 0, none⟩) fs.length cap2)).heap[p]? = some (.cells #[.int .i64 len, .slice (some ⟨g2, 0, none⟩) fs.length cap2] 31 (0, 0)) := by simpa using at_setCell (o := 1) (v := .slice (some ⟨g2, 0, none⟩) fs.length cap2) (at_setCell (o := 0) (v := .int .i64 len) hw5)
      have hmp := ((Mod.refl [p] w').setCell (p := ⟨p, 0, none⟩) (.inl (by simp)) (.int .i64 len)).setCell (p := ⟨p, 1, none⟩) (.inl (by simp)) (.slice (some ⟨g2, 0, none⟩) fs.length cap2)
      have hr2 := row_mod hw2 hmp (fun x hx => by have hx' : some g2 = some x := hx; obtain rfl := Option.some.inj hx'; simpa using hw6)
      have hm4 := hw1.then hmp (fun z hz => .inr (by rw [List.mem_singleton.1 hz]; exact hw4))
      generalize (w'.setCell ⟨p, 0, none⟩ (.int .i64 len)).setCell ⟨p, 1, none⟩ (.slice (some ⟨g2, 0, none⟩) fs.length cap2) = W4 at *
      have hS4 := (hSW.out.add (c := Comp.all [rowC (.slice (some ⟨g2, 0, none⟩) fs.length cap2) fs.length 28 2 (fcells fs), blockC p (.cells #[.int .i64 len, .slice (some ⟨g2, 0, none⟩) fs.length cap2] 31 (0, 0))]) (f := [g2] ++ ([p] ++ [])) hm4 ⟨[g2], [p] ++ [], ⟨hr2, rfl⟩, ⟨[p], [], ⟨u0, rfl⟩, rfl, by simp, rfl⟩, by simpa using hw6, rfl⟩ (fun x hx => by
        simp at hx
        rcases hx with rfl | rfl
        · exact hw3
        · exact hw4)).split
      have hS4H := Lib.hid hS4
      clear hw1 hw2 hw5 hmp g0 hr2 hm4 u0 hS4 hF hcel q0 hw3 hw4 hw6 hSW
      go_wp2_with fail
      refine (sc_new hS4H.out).mono ?_
      rintro e w5 ⟨rb, rfl, _, hS5⟩
      have hS5H := Lib.hid hS5
      have c3 := cells_of (hS5.block 3 rfl)
      clear hS5 hS4H
      go_wp2_with fail
      obtain ⟨k1, k2⟩ := reg_new (R := []) (t := (len, fs)) herr.out (by simp) (by simp)
      refine (sc_register 0 hS5H.out rfl (row_fields (hS5H.out.row 4 rfl) rfl) hlen.1 hlen.2).mono ?_
      rintro e w6 ⟨rfl, hS6⟩
      rw [k2]
      rw [k1] at hS6
      simp only [List.length_nil, Int.zero_add, Int.cast_ofNat_Int] at *
      have hS6H := Lib.hid hS6
      have c3 := cells_of (hS6.block 3 rfl)
      have hr := hS6.row 4 rfl
      have c0 := hr.cellAt 0 (by omega)
      have f0' := hr.frozenAt 0
      have hfc := fcells_at fs 0 (by omega)
      rw [Nat.zero_mul] at hfc
      rw [hfc.1] at c0
      clear hS6 hS5H k1 k2 hr hfc
      go_wp2_with fail
      have hS7 := hS6H.out.spoil 4 rfl (b := g) (fun f h => by rw [h.2]; simp [Value.ownBlock]) 0 (.int .i64 by')
      have hS7H := Lib.hid hS7
      have t1 : lookT ([] ++ [(len, fs)]) 1 = (len, fs) := by simp [lookT]
      have t2 : lookE ([] ++ [(len, fs)]) 1 = 0 := by simp [lookE]
      have hL := Lib.hid (sc_lookup 0 hS7 rfl 1)
      clear hS7 hS6H c0 f0' c3
      generalize w6.setCell ⟨g, 0, none⟩ (.int .i64 by') = W6 at *
      refine hL.out.mono ?_
      rintro e w7 ⟨v7, rfl, hF7, hm7⟩
      rw [t1] at hF7 ⊢
      rw [t2]
      obtain ⟨ya, ym, yc, rfl⟩ := hF7.slice
      have hm7a := hm7.alloc (.cells #[.int .i64 len, .slice ya ym yc] 31)
      have b7 := Lib.hid (at_alloc w7 (.cells #[.int .i64 len, .slice ya ym yc] 31))
      have hF7H := Lib.hid (hF7.mod ((Mod.refl [] w7).alloc (.cells #[.int .i64 len, .slice ya ym yc] 31)))
      have hS8 := Lib.hid (hS7H.out.then hm7a)
      clear hL hF7 hm7 hm7a t1 t2 hS7H
      go_wp2_with fail
      refine (awake_ok _).mono ?_
      rintro e w9 ⟨rfl, hm9⟩
      have hS9 := hS8.out.then hm9
      have c7 := cells_of (hm9.at b7.out (by simp))
      have c2 := cells_of (hS9.block 2 rfl)
      have hF9 := Lib.hid (hF7H.out.mod hm9)
      have hFw := Lib.hid (row_fields (hS9.row 1 rfl) rfl)
      have hS9H := Lib.hid hS9
      clear hS8 hm9 hS9 b7 hF7H
      go_wp2_with fail
      refine (rsame_ok len len _ _ fs fs _ hF9.out hFw.out).mono ?_
      rintro e w10 ⟨rfl, hm10⟩
      have hz : decide (len = len ∧ fs = fs) = true := by simp
      rw [hz]
      have hmm := hS9H.out.mod.nil_then hm10
      clear hS9H hm10 hz hF9 hFw
      go_wp2_with fail
      go_ret
      exact ⟨rfl, hmm⟩
end Go.Proofs.Ytkkjlioigdpacaa
