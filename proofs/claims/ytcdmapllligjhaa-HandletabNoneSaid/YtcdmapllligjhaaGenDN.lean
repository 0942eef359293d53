/- Generations: the definition's slots, new. -/
import Derived.Test.YtcdmapllligjhaaGenDE
namespace Go.Proofs.Ytcdmapllligjhaa
open Go Go.RowKit Go.Stg

theorem info_bool : (Try.prog.info? 4).map (fun i => (i.zero, i.size, i.bytes)) = some (some (.bool false), 1, 1) := by kernel_rfl
theorem made_one (z : Value) (n : Nat) : (madeCells #[z] (n * 1)).toList = List.replicate n z := by
  apply List.ext_getElem?
  intro j
  rw [Array.getElem?_toList]
  by_cases hj : j < n
  · simp [madeCells, hj, Nat.mod_one]
  · rw [List.getElem?_eq_none (by simp; omega), Array.getElem?_eq_none (by simp [size_madeCells]; omega)]
theorem make_one {t e : TypeId} {z : Value} {bytes : Nat} (ht : Try.prog.underlying t = some (.slice e)) (hinfo : (Try.prog.info? e).map (fun i => (i.zero, i.size, i.bytes)) = some (some z, 1, bytes)) (hz : z.cells = #[z]) (hby : bytes ≤ 16) (n : Nat) (hn : n ≤ 4096) (w : World) :
    ∃ w', (Instr.makeSlice t (.int .i64 n) (.int .i64 n)).run Try.prog w = .ok (.slice (some ⟨w.heap.size, 0, none⟩) n n) w' ∧ w'.ownsRow w.heap.size e 1 (.slice (some ⟨w.heap.size, 0, none⟩) n n) n (List.replicate n z) ∧ Mod [] w w' := by
  obtain ⟨i0, hi, hz0, hz1, hz2⟩ := info_parts hinfo
  have hb : i0.bytes * n ≤ 281474976710656 := by
    rw [hz2]
    exact Nat.le_trans (Nat.mul_le_mul hby hn) (by omega)
  obtain ⟨w', h1, h2, h3⟩ := run_makeSlice_full (P := Try.prog) w w.heap.size t e i0 z 1 ht hi hz0 hz1 .i64 .i64 n (by omega) hb (by unfold maxLen; omega) (Nat.le_refl _)
  rw [hz, made_one] at h2
  exact ⟨w', h1, h2, (Mod.refl [] w).grown h3 (by simp)⟩
theorem gens_fresh (n : Nat) : gensOf (fresh n) = List.replicate n (.int .i64 0) := by simp [gensOf, fresh]
theorem lives_fresh (n : Nat) : livesOf (fresh n) = List.replicate n (.bool false) := by simp [livesOf, fresh]
theorem rnew_bad (n f : Int) (h : n < 0 ∨ 4096 < n ∨ f < 1 ∨ 4294967295 < f) (w : World) : Calls Try.prog 39 #[.int .i64 n, .int .i64 f] w fun e w' => e = .returned (.tuple #[.pointer none, .int .i64 1]) ∧ Mod [] w w' := by
  go_enter Try.func39, Try.ntmps39
  by_cases h1 : n < 0
  · go_wp2_with fail
    go_ret2
    exact ⟨rfl, Mod.refl _ _⟩
  · by_cases h2 : 4096 < n
    · go_wp2_with fail
      go_ret2
      exact ⟨rfl, Mod.refl _ _⟩
    · by_cases h3 : f < 1
      · go_wp2_with fail
        go_ret2
        exact ⟨rfl, Mod.refl _ _⟩
      · have h4 : 4294967295 < f := by omega
        clear h
        go_wp2_with fail
        go_ret2
        exact ⟨rfl, Mod.refl _ _⟩
/-- The two rows, both new. -/
def RRows (W : World) (gv lv : Value) (n : Nat) (w' : World) : Prop :=
  Mod [] W w' ∧ w'.ownsRow 0 3 1 gv n (gensOf (fresh n)) ∧ w'.ownsRow 0 4 1 lv n (livesOf (fresh n)) ∧ (∀ y, gv.ownBlock = some y → W.heap.size ≤ y) ∧ (∀ y, lv.ownBlock = some y → W.heap.size ≤ y) ∧ ∀ y, gv.ownBlock = some y → lv.ownBlock ≠ some y
def RFresh (w : World) (b : Nat) (f : Int) (n k : Nat) (gv lv : Value) (w' : World) : Prop :=
  ∃ fv, Mod [] w w' ∧ RAt w' b f (fresh n) (upTo k) 0 gv lv fv ∧ w'.ownsRow 0 3 1 fv k ((upTo k).map (.int .i64)) ∧ ∀ x ∈ rfoot b gv lv fv, w.heap.size ≤ x
set_option maxHeartbeats 4000000 in
theorem rnew_ok (n : Nat) (f : Int) (hn : n ≤ 4096) (hf1 : 1 ≤ f) (hf2 : f ≤ 4294967295) (w : World) :
    Calls Try.prog 39 #[.int .i64 n, .int .i64 f] w fun e w' => ∃ b gv lv fv, e = .returned (.tuple #[.pointer (some ⟨b, 0, none⟩), .int .i64 0]) ∧ Mod [] w w' ∧ RAt w' b f (fresh n) (upTo n) 0 gv lv fv ∧ ∀ x ∈ rfoot b gv lv fv, w.heap.size ≤ x := by
  have hM1 := Lib.hid (make_one Try.underlying67 info_int rfl (by omega) n hn)
  have hM2 := Lib.hid (make_one Try.underlying88 info_bool rfl (by omega) n hn)
  go_enter Try.func39, Try.ntmps39
  go_wp2_with fail
  refine wp_region_floatK 4 4 [0, 1, 3, 2, 4, 5, 6, 7] _ (fun w' => ∃ x : GW [] w, w' = x.1) (fun w' => Mod [] w w') (by kernel_rfl) rfl rfl (by kernel_rfl) (by kernel_rfl) rfl (by decide) (by kernel_rfl) (fun _ h => InGW.of h) (Mod.refl _ _).drew ?_
  simp only [picked, List.filterMap_cons, List.filterMap_nil, List.getElem?_cons_zero, List.getElem?_cons_succ]
  dsimp only [List.getElem_toArray, List.getElem_cons_succ, List.getElem_cons_zero]
  refine float_quiet 3 (by kernel_rfl) (by decide) ?_
  simp only [List.take_succ_cons, List.take_zero, List.drop_succ_cons, List.drop_zero, Nat.reduceAdd]
  repeat (go_big_quiet_step (fail))
  refine wpQuiet_nil ?_
  refine float_eff (by decide) rfl rfl ?A rfl (by simp) ?B
  case A =>
    refine eff_any (fun v => ∃ g, v = .slice (some ⟨g, 0, none⟩) n n) (fun v w' => Mod [] w w' ∧ w'.ownsRow 0 3 1 v n (gensOf (fresh n)) ∧ ∀ y, v.ownBlock = some y → w.heap.size ≤ y) ⟨_, 0, rfl⟩ (fun w' hw => ?_) (fun v w' h => InGW.of h.1) (fun v hv => ?_)
    · obtain ⟨w2, h1, h2, h3⟩ := hM1.out w'
      refine ⟨_, w2, exec_make rfl rfl rfl h1, ⟨_, rfl⟩, hw.nil_then h3, by rw [gens_fresh]; exact row_base h2 (Nat.zero_le _), fun y hy => Nat.le_trans hw.size (h2.lt y hy).1⟩
    simp only [Act.put, List.setIfInBounds_toArray, List.set_cons_succ, List.set_cons_zero]
    obtain ⟨g1, rfl⟩ := hv
    refine float_here ?_
    refine stage_any (fun v => ∃ g, v = .slice (some ⟨g, 0, none⟩) n n) (fun v w' => RRows w (.slice (some ⟨g1, 0, none⟩) n n) v n w') rfl rfl ⟨_, 0, rfl⟩ (fun w' hw => ?_) (fun v w' h => InGW.of h.1) (fun v hv => ?_)
    · obtain ⟨k1, k2, k3⟩ := hw
      obtain ⟨w2, h1, h2, h3⟩ := hM2.out w'
      have hlt := k2.lt
      refine ⟨_, w2, exec_make rfl rfl rfl h1, ⟨_, rfl⟩, k1.nil_then h3, row_mod k2 h3 (by simp), by rw [lives_fresh]; exact row_base h2 (Nat.zero_le _), k3, fun y hy => Nat.le_trans k1.size (h2.lt y hy).1, fun y hy e => by have := (hlt y hy).2; have := (h2.lt y e).1; omega⟩
    simp only [Act.put, List.setIfInBounds_toArray, List.set_cons_succ, List.set_cons_zero]
    obtain ⟨g2, rfl⟩ := hv
    refine stage_quiet 1 (by kernel_rfl) ?_
    simp only [List.take_succ_cons, List.take_zero, List.drop_succ_cons, List.drop_zero]
    repeat (go_big_quiet_step (fail))
    refine wpQuiet_nil ?_
    refine stage_alloc (fun b => .pointer (some ⟨b, 0, none⟩)) (.cells #[.int .i64 f, .slice (some ⟨g1, 0, none⟩) n n, .slice (some ⟨g2, 0, none⟩) n n, .slice none 0 0, .int .i64 0] 90 (0, 0)) (fun b w' => RFresh w b f n 0 (.slice (some ⟨g1, 0, none⟩) n n) (.slice (some ⟨g2, 0, none⟩) n n) w') (by intro s s' h; simpa using h) rfl rfl (fun w' hw => ?_) (fun w' hw => ?_) (fun s w' h => InGW.of h.choose_spec.1) (fun b => ?_)
    · kernel_rfl
    · obtain ⟨h1, h2, h3, h4, h5, h6⟩ := hw
      have ha := (Mod.refl [] w').alloc (.cells #[.int .i64 f, .slice (some ⟨g1, 0, none⟩) n n, .slice (some ⟨g2, 0, none⟩) n n, .slice none 0 0, .int .i64 0] 90 (0, 0))
      have hg := h2.lt
      have hl := h3.lt
      refine ⟨_, h1.alloc _, ⟨at_alloc _ _, by rw [fresh_length]; exact row_mod h2 ha (by simp), by rw [fresh_length]; exact row_mod h3 ha (by simp), .inl ⟨rfl, rfl⟩, ⟨fun e => by have := (hg _ e).2; omega, fun e => by have := (hl _ e).2; omega, by simp [Value.ownBlock]⟩, fun x hx => ⟨h6 x hx, by simp [Value.ownBlock]⟩, by simp [Value.ownBlock]⟩, World.ownsRow_nil _ _ _ _, fun x hx => ?_⟩
      simp only [rfoot, List.mem_cons, List.mem_append, Option.mem_toList] at hx
      rcases hx with rfl | hx | hx | hx
      · exact h1.size
      · exact h4 x hx
      · exact h5 x hx
      · simp [Value.ownBlock] at hx
    simp only [Act.put, List.setIfInBounds_toArray, List.set_cons_succ, List.set_cons_zero]
    refine stage_quiet 1 (by kernel_rfl) ?_
    simp only [List.take_succ_cons, List.take_zero, List.drop_succ_cons, List.drop_zero]
    repeat (go_big_quiet_step (fail))
    refine wpQuiet_nil ?_
    refine stage_nil ?_
    intro w5 hG
    clear hM1 hM2
    obtain ⟨i0, hi0, hz0, hz1, hz2⟩ := info_parts info_int
    go_wp2_with fail
    go_loopw [7] (fun i wr => ∃ k : Nat, k ≤ n ∧ i = .int .i64 k ∧ RFresh w b f n k (.slice (some ⟨g1, 0, none⟩) n n) (.slice (some ⟨g2, 0, none⟩) n n) wr) (fun i _ => n - (intOf i).toNat)
    case atStart => exact ⟨0, by omega, rfl, hG⟩
    case round =>
      obtain ⟨k, hk, rfl, fv, hm6, hG6, hrow6, hfo6⟩ := hrel
      clear hG
      by_cases hlt : k < n
      · have hcb := cells_of hG6.blk
        have hfb := frozen_of hG6.blk
        have hG6a := hG6.mod ((Mod.refl [] wr).alloc (.cells #[.int .i64 k] 3 (0, 0))) (by simp)
        have hcba := cells_of hG6a.blk
        have hG6H := Lib.hid hG6
        have hfoH := Lib.hid hfo6
        have hmH := Lib.hid hm6
        have hrowH := Lib.hid hrow6
        clear hG6 hG6a hfo6 hm6 hrow6
        go_wp2_with (at_builtin; refine wpList_append_row _ rfl _ _ 67 rfl 3 i0 (.int .i64 0) 1 8 Try.underlying67 hi0 hz0 hz1 hz2 rfl (by decide) fv k _ rfl (hrowH.out.alloc _) ⟨wr.heap.size, 0, none⟩ 1 1 [.int .i64 k] rfl rfl (cells1 _ _ _) (by simp [Value.oneCell']) (by unfold maxLen; first | omega | (simp; done) | (simp; omega)) (by first | omega | (simp; done) | (simp; omega)) ?_; intro fv2 w7 hown hgrow hfr; obtain ⟨g5, cap5, rfl, _, _⟩ := row_pos hown (by omega); have hm7 := ((Mod.refl fv.ownBlock.toList wr).alloc (.cells #[.int .i64 k] 3 (0, 0))).grown hgrow (by intro k hk; left; simp [hk]); have hb7 := hm7.at hG6H.out.blk (by simpa using hG6H.out.n1.2.2); have hcb7 := cells_of hb7; have hfb7 := frozen_of hb7)
        have hG6 := hG6H.out
        have hfo6 := hfoH.out
        have hm8 := (hm7.mono (T := b :: fv.ownBlock.toList) (by intro x hx; simp at hx; simp [hx])).setCell (p := ⟨b, 3, none⟩) (.inl (by simp)) (.slice (some ⟨g5, 0, none⟩) (k + 1) cap5)
        have hb8 := at_setCell (o := 3) (v := .slice (some ⟨g5, 0, none⟩) (k + 1) cap5) hb7
        have hg5 : fv.ownBlock = some g5 ∨ wr.heap.size ≤ g5 := by
          rcases hfr g5 rfl with h | h
          · exact .inl h
          · simp at h; omega
        have hbl := lt_of hG6.blk
        have hn5 : g5 ≠ b := fun e => by
          rcases hg5 with h | h
          · exact hG6.n1.2.2 (by rw [h, e])
          · omega
        have hr8 := row_mod hown ((Mod.refl [b] w7).setCell (p := ⟨b, 3, none⟩) (.inl (by simp)) (.slice (some ⟨g5, 0, none⟩) (k + 1) cap5)) (fun x hx => by simp [Value.ownBlock] at hx; simp; omega)
        have e8 : ((upTo k).map (Value.int .i64) ++ [Value.int .i64 k]) = (upTo (k + 1)).map (.int .i64) := by rw [upTo_succ, List.map_append]; rfl
        rw [e8] at hr8
        have ha8 : ∀ x, x < wr.heap.size → x ≠ b → fv.ownBlock ≠ some x → x ∉ b :: fv.ownBlock.toList ∧ g5 ≠ x := fun x h1 h2 h3 => ⟨by simp [h2]; exact h3, fun e => by
          rcases hg5 with h | h
          · exact h3 (by rw [h, e])
          · omega⟩
        have hgl := row_lt hG6.gen
        have hll := row_lt hG6.live
        have hA8 : RAt (w7.setCell ⟨b, 3, none⟩ (.slice (some ⟨g5, 0, none⟩) (k + 1) cap5)) b f (fresh n) (upTo (k + 1)) 0 (.slice (some ⟨g1, 0, none⟩) n n) (.slice (some ⟨g2, 0, none⟩) n n) (.slice (some ⟨g5, 0, none⟩) (k + 1) cap5) := by
          have q1 := ha8 g1 (hgl g1 rfl).2 (fun e => hG6.n1.1 (by rw [e]; rfl)) (hG6.n2 g1 rfl).2
          have q2 := ha8 g2 (hll g2 rfl).2 (fun e => hG6.n1.2.1 (by rw [e]; rfl)) (hG6.n3 g2 rfl)
          refine ⟨hb8, row_mod hG6.gen hm8 (fun x hx => ?_), row_mod hG6.live hm8 (fun x hx => ?_), row_ints hr8 (by rw [upTo_length]) (by rw [upTo_length]; omega), ⟨hG6.n1.1, hG6.n1.2.1, by simp [Value.ownBlock]; exact hn5⟩, fun x hx => ⟨(hG6.n2 x hx).1, ?_⟩, fun x hx => ?_⟩
          · simp [Value.ownBlock] at hx; subst hx; exact q1.1
          · simp [Value.ownBlock] at hx; subst hx; exact q2.1
          · simp [Value.ownBlock] at hx ⊢; subst hx; exact q1.2
          · simp [Value.ownBlock] at hx ⊢; subst hx; exact q2.2
        have hR8 : RFresh w b f n (k + 1) (.slice (some ⟨g1, 0, none⟩) n n) (.slice (some ⟨g2, 0, none⟩) n n) (w7.setCell ⟨b, 3, none⟩ (.slice (some ⟨g5, 0, none⟩) (k + 1) cap5)) := by
          refine ⟨_, hmH.out.then hm8 (fun x hx => .inr (hfo6 x ?_)), hA8, hr8, fun x hx => ?_⟩
          · rcases List.mem_cons.1 hx with rfl | hx
            · simp [rfoot]
            · simp at hx; simp [rfoot, hx]
          · simp only [rfoot, List.mem_cons, List.mem_append, Option.mem_toList] at hx
            rcases hx with rfl | hx | hx | hx
            · exact hfo6 x (by simp [rfoot])
            · exact hfo6 x (by simp [rfoot, hx])
            · exact hfo6 x (by simp [rfoot, hx])
            · have hx' : g5 = x := by simpa [Value.ownBlock] using hx
              subst hx'
              rcases hg5 with h | h
              · exact hfo6 g5 (by simp [rfoot, h])
              · exact Nat.le_trans hmH.out.size h
        clear hcb hfb hcba hm7 hb7 hcb7 hfb7 hm8 hb8 hr8 hA8 ha8
        generalize w7.setCell ⟨b, 3, none⟩ (.slice (some ⟨g5, 0, none⟩) (k + 1) cap5) = w9 at *
        go_roundw
        case rel => exact ⟨k + 1, by omega, by go_num, hR8⟩
        case measure => simp [intOf]; omega
      · obtain rfl : k = n := by omega
        go_wp2_with fail
        go_ret2
        exact ⟨b, _, _, fv, rfl, hm6, hG6, hfo6⟩
  case B =>
    simp only [Nat.reduceSub, List.eraseIdx_cons_succ, List.eraseIdx_cons_zero]
    refine stage_any (fun v => ∃ g, v = .slice (some ⟨g, 0, none⟩) n n) (fun v w' => Mod [] w w' ∧ w'.ownsRow 0 4 1 v n (livesOf (fresh n)) ∧ ∀ y, v.ownBlock = some y → w.heap.size ≤ y) rfl rfl ⟨_, 0, rfl⟩ (fun w' hw => ?_) (fun v w' h => InGW.of h.1) (fun v hv => ?_)
    · obtain ⟨w2, h1, h2, h3⟩ := hM2.out w'
      refine ⟨_, w2, exec_make rfl rfl rfl h1, ⟨_, rfl⟩, hw.nil_then h3, by rw [lives_fresh]; exact row_base h2 (Nat.zero_le _), fun y hy => Nat.le_trans hw.size (h2.lt y hy).1⟩
    simp only [Act.put, List.setIfInBounds_toArray, List.set_cons_succ, List.set_cons_zero]
    obtain ⟨g2, rfl⟩ := hv
    refine stage_any (fun v => ∃ g, v = .slice (some ⟨g, 0, none⟩) n n) (fun v w' => RRows w v (.slice (some ⟨g2, 0, none⟩) n n) n w') rfl rfl ⟨_, 0, rfl⟩ (fun w' hw => ?_) (fun v w' h => InGW.of h.1) (fun v hv => ?_)
    · obtain ⟨k1, k2, k3⟩ := hw
      obtain ⟨w2, h1, h2, h3⟩ := hM1.out w'
      have hlt := k2.lt
      refine ⟨_, w2, exec_make rfl rfl rfl h1, ⟨_, rfl⟩, k1.nil_then h3, by rw [gens_fresh]; exact row_base h2 (Nat.zero_le _), row_mod k2 h3 (by simp), fun y hy => Nat.le_trans k1.size (h2.lt y hy).1, k3, fun y hy e => by have := (h2.lt y hy).1; have := (hlt y e).2; omega⟩
    simp only [Act.put, List.setIfInBounds_toArray, List.set_cons_succ, List.set_cons_zero]
    obtain ⟨g1, rfl⟩ := hv
    refine stage_quiet 1 (by kernel_rfl) ?_
    simp only [List.take_succ_cons, List.take_zero, List.drop_succ_cons, List.drop_zero]
    repeat (go_big_quiet_step (fail))
    refine wpQuiet_nil ?_
    refine stage_alloc (fun b => .pointer (some ⟨b, 0, none⟩)) (.cells #[.int .i64 f, .slice (some ⟨g1, 0, none⟩) n n, .slice (some ⟨g2, 0, none⟩) n n, .slice none 0 0, .int .i64 0] 90 (0, 0)) (fun b w' => RFresh w b f n 0 (.slice (some ⟨g1, 0, none⟩) n n) (.slice (some ⟨g2, 0, none⟩) n n) w') (by intro s s' h; simpa using h) rfl rfl (fun w' hw => ?_) (fun w' hw => ?_) (fun s w' h => InGW.of h.choose_spec.1) (fun b => ?_)
    · kernel_rfl
    · obtain ⟨h1, h2, h3, h4, h5, h6⟩ := hw
      have ha := (Mod.refl [] w').alloc (.cells #[.int .i64 f, .slice (some ⟨g1, 0, none⟩) n n, .slice (some ⟨g2, 0, none⟩) n n, .slice none 0 0, .int .i64 0] 90 (0, 0))
      have hg := h2.lt
      have hl := h3.lt
      refine ⟨_, h1.alloc _, ⟨at_alloc _ _, by rw [fresh_length]; exact row_mod h2 ha (by simp), by rw [fresh_length]; exact row_mod h3 ha (by simp), .inl ⟨rfl, rfl⟩, ⟨fun e => by have := (hg _ e).2; omega, fun e => by have := (hl _ e).2; omega, by simp [Value.ownBlock]⟩, fun x hx => ⟨h6 x hx, by simp [Value.ownBlock]⟩, by simp [Value.ownBlock]⟩, World.ownsRow_nil _ _ _ _, fun x hx => ?_⟩
      simp only [rfoot, List.mem_cons, List.mem_append, Option.mem_toList] at hx
      rcases hx with rfl | hx | hx | hx
      · exact h1.size
      · exact h4 x hx
      · exact h5 x hx
      · simp [Value.ownBlock] at hx
    simp only [Act.put, List.setIfInBounds_toArray, List.set_cons_succ, List.set_cons_zero]
    refine stage_quiet 1 (by kernel_rfl) ?_
    simp only [List.take_succ_cons, List.take_zero, List.drop_succ_cons, List.drop_zero]
    repeat (go_big_quiet_step (fail))
    refine wpQuiet_nil ?_
    refine stage_nil ?_
    intro w5 hG
    clear hM1 hM2
    obtain ⟨i0, hi0, hz0, hz1, hz2⟩ := info_parts info_int
    go_wp2_with fail
    go_loopw [7] (fun i wr => ∃ k : Nat, k ≤ n ∧ i = .int .i64 k ∧ RFresh w b f n k (.slice (some ⟨g1, 0, none⟩) n n) (.slice (some ⟨g2, 0, none⟩) n n) wr) (fun i _ => n - (intOf i).toNat)
    case atStart => exact ⟨0, by omega, rfl, hG⟩
    case round =>
      obtain ⟨k, hk, rfl, fv, hm6, hG6, hrow6, hfo6⟩ := hrel
      clear hG
      by_cases hlt : k < n
      · have hcb := cells_of hG6.blk
        have hfb := frozen_of hG6.blk
        have hG6a := hG6.mod ((Mod.refl [] wr).alloc (.cells #[.int .i64 k] 3 (0, 0))) (by simp)
        have hcba := cells_of hG6a.blk
        have hG6H := Lib.hid hG6
        have hfoH := Lib.hid hfo6
        have hmH := Lib.hid hm6
        have hrowH := Lib.hid hrow6
        clear hG6 hG6a hfo6 hm6 hrow6
        go_wp2_with (at_builtin; refine wpList_append_row _ rfl _ _ 67 rfl 3 i0 (.int .i64 0) 1 8 Try.underlying67 hi0 hz0 hz1 hz2 rfl (by decide) fv k _ rfl (hrowH.out.alloc _) ⟨wr.heap.size, 0, none⟩ 1 1 [.int .i64 k] rfl rfl (cells1 _ _ _) (by simp [Value.oneCell']) (by unfold maxLen; first | omega | (simp; done) | (simp; omega)) (by first | omega | (simp; done) | (simp; omega)) ?_; intro fv2 w7 hown hgrow hfr; obtain ⟨g5, cap5, rfl, _, _⟩ := row_pos hown (by omega); have hm7 := ((Mod.refl fv.ownBlock.toList wr).alloc (.cells #[.int .i64 k] 3 (0, 0))).grown hgrow (by intro k hk; left; simp [hk]); have hb7 := hm7.at hG6H.out.blk (by simpa using hG6H.out.n1.2.2); have hcb7 := cells_of hb7; have hfb7 := frozen_of hb7)
        have hG6 := hG6H.out
        have hfo6 := hfoH.out
        have hm8 := (hm7.mono (T := b :: fv.ownBlock.toList) (by intro x hx; simp at hx; simp [hx])).setCell (p := ⟨b, 3, none⟩) (.inl (by simp)) (.slice (some ⟨g5, 0, none⟩) (k + 1) cap5)
        have hb8 := at_setCell (o := 3) (v := .slice (some ⟨g5, 0, none⟩) (k + 1) cap5) hb7
        have hg5 : fv.ownBlock = some g5 ∨ wr.heap.size ≤ g5 := by
          rcases hfr g5 rfl with h | h
          · exact .inl h
          · simp at h; omega
        have hbl := lt_of hG6.blk
        have hn5 : g5 ≠ b := fun e => by
          rcases hg5 with h | h
          · exact hG6.n1.2.2 (by rw [h, e])
          · omega
        have hr8 := row_mod hown ((Mod.refl [b] w7).setCell (p := ⟨b, 3, none⟩) (.inl (by simp)) (.slice (some ⟨g5, 0, none⟩) (k + 1) cap5)) (fun x hx => by simp [Value.ownBlock] at hx; simp; omega)
        have e8 : ((upTo k).map (Value.int .i64) ++ [Value.int .i64 k]) = (upTo (k + 1)).map (.int .i64) := by rw [upTo_succ, List.map_append]; rfl
        rw [e8] at hr8
        have ha8 : ∀ x, x < wr.heap.size → x ≠ b → fv.ownBlock ≠ some x → x ∉ b :: fv.ownBlock.toList ∧ g5 ≠ x := fun x h1 h2 h3 => ⟨by simp [h2]; exact h3, fun e => by
          rcases hg5 with h | h
          · exact h3 (by rw [h, e])
          · omega⟩
        have hgl := row_lt hG6.gen
        have hll := row_lt hG6.live
        have hA8 : RAt (w7.setCell ⟨b, 3, none⟩ (.slice (some ⟨g5, 0, none⟩) (k + 1) cap5)) b f (fresh n) (upTo (k + 1)) 0 (.slice (some ⟨g1, 0, none⟩) n n) (.slice (some ⟨g2, 0, none⟩) n n) (.slice (some ⟨g5, 0, none⟩) (k + 1) cap5) := by
          have q1 := ha8 g1 (hgl g1 rfl).2 (fun e => hG6.n1.1 (by rw [e]; rfl)) (hG6.n2 g1 rfl).2
          have q2 := ha8 g2 (hll g2 rfl).2 (fun e => hG6.n1.2.1 (by rw [e]; rfl)) (hG6.n3 g2 rfl)
          refine ⟨hb8, row_mod hG6.gen hm8 (fun x hx => ?_), row_mod hG6.live hm8 (fun x hx => ?_), row_ints hr8 (by rw [upTo_length]) (by rw [upTo_length]; omega), ⟨hG6.n1.1, hG6.n1.2.1, by simp [Value.ownBlock]; exact hn5⟩, fun x hx => ⟨(hG6.n2 x hx).1, ?_⟩, fun x hx => ?_⟩
          · simp [Value.ownBlock] at hx; subst hx; exact q1.1
          · simp [Value.ownBlock] at hx; subst hx; exact q2.1
          · simp [Value.ownBlock] at hx ⊢; subst hx; exact q1.2
          · simp [Value.ownBlock] at hx ⊢; subst hx; exact q2.2
        have hR8 : RFresh w b f n (k + 1) (.slice (some ⟨g1, 0, none⟩) n n) (.slice (some ⟨g2, 0, none⟩) n n) (w7.setCell ⟨b, 3, none⟩ (.slice (some ⟨g5, 0, none⟩) (k + 1) cap5)) := by
          refine ⟨_, hmH.out.then hm8 (fun x hx => .inr (hfo6 x ?_)), hA8, hr8, fun x hx => ?_⟩
          · rcases List.mem_cons.1 hx with rfl | hx
            · simp [rfoot]
            · simp at hx; simp [rfoot, hx]
          · simp only [rfoot, List.mem_cons, List.mem_append, Option.mem_toList] at hx
            rcases hx with rfl | hx | hx | hx
            · exact hfo6 x (by simp [rfoot])
            · exact hfo6 x (by simp [rfoot, hx])
            · exact hfo6 x (by simp [rfoot, hx])
            · have hx' : g5 = x := by simpa [Value.ownBlock] using hx
              subst hx'
              rcases hg5 with h | h
              · exact hfo6 g5 (by simp [rfoot, h])
              · exact Nat.le_trans hmH.out.size h
        clear hcb hfb hcba hm7 hb7 hcb7 hfb7 hm8 hb8 hr8 hA8 ha8
        generalize w7.setCell ⟨b, 3, none⟩ (.slice (some ⟨g5, 0, none⟩) (k + 1) cap5) = w9 at *
        go_roundw
        case rel => exact ⟨k + 1, by omega, by go_num, hR8⟩
        case measure => simp [intOf]; omega
      · obtain rfl : k = n := by omega
        go_wp2_with fail
        go_ret2
        exact ⟨b, _, _, fv, rfl, hm6, hG6, hfo6⟩
end Go.Proofs.Ytcdmapllligjhaa
