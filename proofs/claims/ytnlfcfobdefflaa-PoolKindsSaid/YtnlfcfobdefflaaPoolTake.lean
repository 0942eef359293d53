/- The pool of pairs: Take. -/
import Derived.Test.YtnlfcfobdefflaaPoolPair
namespace Go.Proofs.Ytnlfcfobdefflaa
open Go Go.RowKit Go.Stg

theorem pair_alloc2 {w : World} {b : Nat} {sv : Value} {l : List Int} (h : PairAt w b sv l) (o o' : Obj) : PairAt ((w.alloc o).alloc o') b sv l :=
  (h.mod ((Mod.refl [] w).alloc o) (by simp)).mod ((Mod.refl [] _).alloc o') (by simp)
theorem TakeP_none (d : Int) (b : Nat) (sv : Value) (w : World) (h : PairAt w b sv []) : Calls Try.prog 15 #[.pointer (some ⟨b, 0, none⟩), .int .u64 d] w fun e w' => e = .returned (.tuple #[.agg #[.int .i64 0, .int .i64 0], .bool false]) ∧ Mod [] w w' := by
  have H := Lib.hid (LenP_any b sv [] _ (pair_alloc2 h (.cells #[.int .i64 0, .int .i64 0] 29 (0, 0)) (.cells #[.int .i64 0, .int .i64 0] 29 (0, 0))))
  clear h
  go_enter Try.func15, Try.ntmps15
  go_wp2_with fail
  refine H.out.mono ?_
  rintro e w1 ⟨rfl, hm1⟩
  have hm := ((Mod.refl [] w).alloc (.cells #[.int .i64 0, .int .i64 0] 29 (0, 0))).alloc (.cells #[.int .i64 0, .int .i64 0] 29 (0, 0)) |>.nil_then hm1
  have k0 := hm1.at (at_alloc_old (at_alloc w (.cells #[.int .i64 0, .int .i64 0] 29 (0, 0)))) (by simp)
  have k1 := hm1.at (at_alloc (w.alloc (.cells #[.int .i64 0, .int .i64 0] 29 (0, 0))) (.cells #[.int .i64 0, .int .i64 0] 29 (0, 0))) (by simp)
  simp only [World.size_alloc] at k1
  have c0 := cells_of k0
  have c1 := cells_of k1
  have f0 := frozen_of k0
  go_wp2_with fail
  have k2 := at_setCell (o := 1) (v := .int .i64 0) (at_setCell (o := 0) (v := .int .i64 0) k0)
  have hm2 := (hm.setCell (p := ⟨w.heap.size, 0, none⟩) (.inr (Nat.le_refl _)) (.int .i64 0)).setCell (p := ⟨w.heap.size, 1, none⟩) (.inr (Nat.le_refl _)) (.int .i64 0)
  simp only [List.setIfInBounds_toArray, List.set_cons_succ, List.set_cons_zero] at k2
  generalize (w1.setCell ⟨w.heap.size, 0, none⟩ (.int .i64 0)).setCell ⟨w.heap.size, 1, none⟩ (.int .i64 0) = w2 at *
  clear k0 k1 c0 c1 f0
  have c2 := cells_of k2
  generalize w.heap.size = s at *
  refine bodyPost_ret (v := .tuple #[.agg #[.int .i64 0, .int .i64 0], .bool false]) ?_ rfl ⟨rfl, hm2⟩
  simp [results, Try.results15, go_sem, c2]
theorem row_shrink2 {w : World} {base e g cap n m : Nat} {cs : List Value} (h : w.ownsRow base e 2 (.slice (some ⟨g, 0, none⟩) n cap) n cs) (hm : m ≤ n) : w.ownsRow base e 2 (.slice (some ⟨g, 0, none⟩) m cap) m (cs.take (m * 2)) := by
  have hl := h.1
  rcases h.2 with ⟨h, _⟩ | ⟨g', cap', cur, h1, h2, h3, h4, h5, h6, h7⟩
  · simp at h
  · simp at h1
    obtain ⟨rfl, rfl⟩ := h1
    refine ⟨by simp; omega, .inr ⟨g, cap, cur, rfl, h2, h3, by omega, h5, h6, ?_⟩⟩
    rw [← h7, List.take_take]
    congr 1
    omega
theorem pcells_shrink (l : List Int) (i : Nat) (hn : 0 < l.length) (z : Int) (hz : l[l.length - 1] = z) (u v : Value) :
    (((pcells (l.set i z)).set ((l.length - 1) * 2) u).set ((l.length - 1) * 2 + 1) v).take ((l.length - 1) * 2) = pcells (takeAt l i hn) := by
  have h1 : (((pcells (l.set i z)).set ((l.length - 1) * 2) u).set ((l.length - 1) * 2 + 1) v).take ((l.length - 1) * 2) = (pcells (l.set i z)).take ((l.length - 1) * 2) := by
    apply List.ext_getElem?
    intro k
    simp only [List.getElem?_take]
    split
    · rw [List.getElem?_set_ne (by omega), List.getElem?_set_ne (by omega)]
    · rfl
  rw [h1, pcells_take]
  unfold takeAt
  rw [List.dropLast_eq_take, hz, List.length_set]
set_option maxHeartbeats 2000000 in
theorem TakeP_some (d : Int) (hd : 0 ≤ d) (hd2 : d ≤ 18446744073709551615) (b : Nat) (sv : Value) (l : List Int) (w : World) (h : PairAt w b sv l) (hn : 0 < l.length) (i : Nat) (hi : d % l.length = i) (hil : i < l.length) :
    Calls Try.prog 15 #[.pointer (some ⟨b, 0, none⟩), .int .u64 d] w (PairPost (.tuple #[.agg #[.int .i64 l[i], .int .i64 (-l[i])], .bool true]) b sv (takeAt l i hn) w) := by
  have h1 := pair_alloc2 h (.cells #[.int .i64 0, .int .i64 0] 29 (0, 0)) (.cells #[.int .i64 0, .int .i64 0] 29 (0, 0))
  have H := Lib.hid (LenP_any b sv l _ h1)
  obtain ⟨g, cap, hsv, _, hg⟩ := row_pos h.row hn
  have hbw := lt_of h.blk
  clear h
  have hHI := Lib.hid hi
  have hi0 : d % l.length = i := hi
  clear hi
  go_enter Try.func15, Try.ntmps15
  go_wp2_with fail
  refine H.out.mono ?_
  rintro e w1 ⟨rfl, hm1⟩
  have hm := ((Mod.refl [] w).alloc (.cells #[.int .i64 0, .int .i64 0] 29 (0, 0))).alloc (.cells #[.int .i64 0, .int .i64 0] 29 (0, 0)) |>.nil_then hm1
  have k0 := hm1.at (at_alloc_old (at_alloc w (.cells #[.int .i64 0, .int .i64 0] 29 (0, 0)))) (by simp)
  have k1 := hm1.at (at_alloc (w.alloc (.cells #[.int .i64 0, .int .i64 0] 29 (0, 0))) (.cells #[.int .i64 0, .int .i64 0] 29 (0, 0))) (by simp)
  simp only [World.size_alloc] at k1
  have h1 := h1.mod hm1 (by simp)
  subst hsv
  obtain ⟨hb1, hrow1, hne, hlen⟩ := h1
  have hgb : g ≠ b := fun e => hne (by rw [← e]; rfl)
  have hcb := cells_of hb1
  have hlc : l.length ≤ cap := by
    rcases row_cases hrow1 with ⟨h, _⟩ | ⟨g', cap', h, _, _, h2, _⟩
    · simp at h
    · simp at h
      obtain ⟨rfl, rfl⟩ := h
      exact h2
  obtain ⟨c0, c1⟩ := pcells_at l i hil
  have hpl := pcells_length l
  rw [← hrow1.cellAt (i * 2) (by omega)] at c0
  rw [← hrow1.cellAt (i * 2 + 1) (by omega)] at c1
  have hne0 : ((l.length : Int) == 0) = false := by simp only [beq_eq_false_iff_ne]; omega
  clear H hm1
  go_wp2_with fail
  clear hHI hcb c0 c1
  have hbW := at_alloc_old (o := .cells #[.int .i64 l[i], .int .i64 (-l[i])] 29 (0, 0)) hb1
  have hrowW := hrow1.alloc (.cells #[.int .i64 l[i], .int .i64 (-l[i])] 29 (0, 0))
  have k0W := at_alloc_old (o := .cells #[.int .i64 l[i], .int .i64 (-l[i])] 29 (0, 0)) k0
  have k1W := at_alloc_old (o := .cells #[.int .i64 l[i], .int .i64 (-l[i])] 29 (0, 0)) k1
  have kqW := at_alloc w1 (.cells #[.int .i64 l[i], .int .i64 (-l[i])] 29 (0, 0))
  have hmW := hm.alloc (.cells #[.int .i64 l[i], .int .i64 (-l[i])] 29 (0, 0))
  have hsq : w.heap.size + 2 ≤ w1.heap.size := by have := lt_of k1; omega
  have hg1 : g < w1.heap.size := (hrow1.lt g rfl).2
  have hb1' := lt_of hb1
  clear hm k0 k1 hb1 hrow1
  generalize w1.alloc (.cells #[.int .i64 l[i], .int .i64 (-l[i])] 29 (0, 0)) = W at *
  generalize w1.heap.size = q at *
  generalize hxi : l[i] = xi at *
  obtain ⟨c0, c1⟩ := pcells_at l (l.length - 1) (by omega)
  rw [← hrowW.cellAt ((l.length - 1) * 2) (by omega)] at c0
  rw [← hrowW.cellAt ((l.length - 1) * 2 + 1) (by omega)] at c1
  have hgW := (hrowW.lt g rfl).2
  have j1 := GW.cells (S := []) hbW (by simp)
  have j2 := GW.cell1 (S := []) c0 hgW (by simp)
  have j3 := GW.cell1 (S := []) c1 hgW (by simp)
  have hn1 : ((l.length : Int) - 1).toNat = l.length - 1 := by omega
  have hf0 := hrowW.frozenAt (i * 2)
  have hf1 := hrowW.frozenAt (i * 2 + 1)
  have hc0 : ∃ u, W.cell? ⟨g, i * 2, none⟩ = some u := ⟨_, (hrowW.cellAt (i * 2) (by omega)).trans (pcells_at l i hil).1⟩
  have hc1 : ∃ u, W.cell? ⟨g, i * 2 + 1, none⟩ = some u := ⟨_, (hrowW.cellAt (i * 2 + 1) (by omega)).trans (pcells_at l i hil).2⟩
  obtain ⟨u0, hu0⟩ := hc0
  obtain ⟨u1, hu1⟩ := hc1
  generalize hzl : l[l.length - 1] = zl at *
  refine wp_region_pure (by kernel_rfl) (by kernel_rfl) ?_
  refine stage_quiet 14 (by kernel_rfl) ?_
  simp only [List.take_succ_cons, List.take_zero, List.drop_succ_cons, List.drop_zero]
  repeat (go_big_quiet_step (fail))
  refine wpQuiet_nil ?_
  refine stage_store (p := ⟨g, i * 2, none⟩) (u := .agg #[.int .i64 zl, .int .i64 (-zl)]) (fun w => (w.setCell ⟨g, i * 2, none⟩ (.int .i64 zl)).setCell ⟨g, i * 2 + 1, none⟩ (.int .i64 (-zl))) rfl rfl (by kernel_rfl) rfl rfl rfl (fun w' hw => ?_) (fun w2 hm2 => ?_)
  · have c1 := (cell_mod hw hgW (by simp)).trans hu0
    have c2 := (cell_mod hw hgW (by simp)).trans hu1
    have f1 := (frozen_mod hw hgW (by simp)).trans hf0
    have f2 := (frozen_mod hw hgW (by simp)).trans hf1
    clear j1 j2 j3 hu0 hu1 hf0 hf1
    go_simp
  · clear j1 j2 j3 hu0 hu1 hf0 hf1 c0 c1
    have r3 := ((row_mod hrowW hm2 (by simp)).stored (i * 2) (.int .i64 zl)).1.stored (i * 2 + 1) (.int .i64 (-zl)) |>.1
    rw [pcells_set l i zl hil] at r3
    have other : ∀ {k : Nat} {o : Obj}, W.heap[k]? = some o → k ≠ g → ((w2.setCell ⟨g, i * 2, none⟩ (.int .i64 zl)).setCell ⟨g, i * 2 + 1, none⟩ (.int .i64 (-zl))).heap[k]? = some o := fun hk hne => at_setCell_other (at_setCell_other (hm2.at hk (by simp)) hne) hne
    have b3 := other hbW hgb.symm
    have s3 := other k0W (by omega)
    have z3 := other k1W (by omega)
    have q3 := other kqW (by omega)
    have m3 : Mod [b, g] w _ := (((hmW.nil_then hm2).mono (T := [b, g]) (by simp)).setCell (p := ⟨g, i * 2, none⟩) (.inl (by simp)) (.int .i64 zl)).setCell (p := ⟨g, i * 2 + 1, none⟩) (.inl (by simp)) (.int .i64 (-zl))
    clear other
    generalize (w2.setCell ⟨g, i * 2, none⟩ (.int .i64 zl)).setCell ⟨g, i * 2 + 1, none⟩ (.int .i64 (-zl)) = W3 at *
    clear hm2 hbW hrowW k0W k1W kqW hmW
    have hl3 : (l.set i zl).length = l.length := by simp
    have hg3 := (r3.lt g rfl).2
    have hf0 := r3.frozenAt ((l.length - 1) * 2)
    have hf1 := r3.frozenAt ((l.length - 1) * 2 + 1)
    have hc0 : ∃ u, W3.cell? ⟨g, (l.length - 1) * 2, none⟩ = some u := ⟨_, (r3.cellAt ((l.length - 1) * 2) (by omega)).trans (pcells_at (l.set i zl) (l.length - 1) (by omega)).1⟩
    have hc1 : ∃ u, W3.cell? ⟨g, (l.length - 1) * 2 + 1, none⟩ = some u := ⟨_, (r3.cellAt ((l.length - 1) * 2 + 1) (by omega)).trans (pcells_at (l.set i zl) (l.length - 1) (by omega)).2⟩
    obtain ⟨u0, hu0⟩ := hc0
    obtain ⟨u1, hu1⟩ := hc1
    go_wp2_with fail
    have j1 := GW.cells (S := []) b3 (by simp)
    have j2 := GW.cells (S := []) z3 (by simp)
    refine wp_region_pure (by kernel_rfl) (by kernel_rfl) ?_
    refine stage_quiet 8 (by kernel_rfl) ?_
    simp only [List.take_succ_cons, List.take_zero, List.drop_succ_cons, List.drop_zero]
    repeat (go_big_quiet_step (fail))
    refine wpQuiet_nil ?_
    refine stage_store (p := ⟨g, (l.length - 1) * 2, none⟩) (u := .agg #[.int .i64 0, .int .i64 0]) (fun w => (w.setCell ⟨g, (l.length - 1) * 2, none⟩ (.int .i64 0)).setCell ⟨g, (l.length - 1) * 2 + 1, none⟩ (.int .i64 0)) rfl rfl (by kernel_rfl) rfl rfl rfl (fun w' hw => ?_) (fun w4 hm4 => ?_)
    · have c1 := (cell_mod hw hg3 (by simp)).trans hu0
      have c2 := (cell_mod hw hg3 (by simp)).trans hu1
      have f1 := (frozen_mod hw hg3 (by simp)).trans hf0
      have f2 := (frozen_mod hw hg3 (by simp)).trans hf1
      clear j1 j2 hu0 hu1 hf0 hf1
      go_simp
    · clear j1 j2 hu0 hu1 hf0 hf1
      have r5 := ((row_mod r3 hm4 (by simp)).stored ((l.length - 1) * 2) (.int .i64 0)).1.stored ((l.length - 1) * 2 + 1) (.int .i64 0) |>.1
      have other : ∀ {k : Nat} {o : Obj}, W3.heap[k]? = some o → k ≠ g → ((w4.setCell ⟨g, (l.length - 1) * 2, none⟩ (.int .i64 0)).setCell ⟨g, (l.length - 1) * 2 + 1, none⟩ (.int .i64 0)).heap[k]? = some o := fun hk hne => at_setCell_other (at_setCell_other (hm4.at hk (by simp)) hne) hne
      have b5 := other b3 hgb.symm
      have s5 := other s3 (by omega)
      have q5 := other q3 (by omega)
      have m5 : Mod [b, g] w _ := ((m3.nil_then hm4).setCell (p := ⟨g, (l.length - 1) * 2, none⟩) (.inl (by simp)) (.int .i64 0)).setCell (p := ⟨g, (l.length - 1) * 2 + 1, none⟩) (.inl (by simp)) (.int .i64 0)
      clear other
      generalize (w4.setCell ⟨g, (l.length - 1) * 2, none⟩ (.int .i64 0)).setCell ⟨g, (l.length - 1) * 2 + 1, none⟩ (.int .i64 0) = W5 at *
      clear hm4 b3 r3 s3 q3 z3 m3
      have r6 := row_shrink2 r5 (Nat.sub_le l.length 1)
      rw [pcells_shrink l i hn zl hzl] at r6
      have cb := cells_of b5
      have fb := frozen_of b5
      have cq := cells_of q5
      have cs := cells_of s5
      have fs := frozen_of s5
      have hsb : w.heap.size ≠ b := by omega
      have hqb : q ≠ b := by omega
      go_wp2_with fail
      have b7 := at_setCell_other (a := ⟨w.heap.size, 1, none⟩) (v := .int .i64 (-xi)) (at_setCell_other (a := ⟨w.heap.size, 0, none⟩) (v := .int .i64 xi) (at_setCell (o := 0) (v := .slice (some ⟨g, 0, none⟩) (l.length - 1) cap) b5) hsb.symm) hsb.symm
      have s7 := at_setCell (o := 1) (v := .int .i64 (-xi)) (at_setCell (o := 0) (v := .int .i64 xi) (at_setCell_other (a := ⟨b, 0, none⟩) (v := .slice (some ⟨g, 0, none⟩) (l.length - 1) cap) s5 hsb))
      have m7 := ((m5.setCell (p := ⟨b, 0, none⟩) (.inl (by simp)) (.slice (some ⟨g, 0, none⟩) (l.length - 1) cap)).setCell (p := ⟨w.heap.size, 0, none⟩) (.inr (Nat.le_refl _)) (.int .i64 xi)).setCell (p := ⟨w.heap.size, 1, none⟩) (.inr (Nat.le_refl _)) (.int .i64 (-xi))
      have r7 := row_mod r6 ((((Mod.refl [b, w.heap.size] W5).setCell (p := ⟨b, 0, none⟩) (.inl (by simp)) (.slice (some ⟨g, 0, none⟩) (l.length - 1) cap)).setCell (p := ⟨w.heap.size, 0, none⟩) (.inl (by simp)) (.int .i64 xi)).setCell (p := ⟨w.heap.size, 1, none⟩) (.inl (by simp)) (.int .i64 (-xi))) (fun k hk => by simp [Value.ownBlock] at hk; subst hk; simp; omega)
      simp only [List.setIfInBounds_toArray, List.set_cons_succ, List.set_cons_zero] at s7 b7
      generalize ((W5.setCell ⟨b, 0, none⟩ (.slice (some ⟨g, 0, none⟩) (l.length - 1) cap)).setCell ⟨w.heap.size, 0, none⟩ (.int .i64 xi)).setCell ⟨w.heap.size, 1, none⟩ (.int .i64 (-xi)) = W7 at *
      clear cb fb cq cs fs b5 s5 q5 m5 r5 r6
      have c7 := cells_of s7
      rw [hxi]
      have hfin : PairPost (.tuple #[.agg #[.int .i64 xi, .int .i64 (-xi)], .bool true]) b (.slice (some ⟨g, 0, none⟩) l.length cap) (takeAt l i hn) w (.returned (.tuple #[.agg #[.int .i64 xi, .int .i64 (-xi)], .bool true])) W7 :=
        ⟨_, rfl, m7, ⟨b7, by rw [takeAt_length]; exact r7, by simpa [Value.ownBlock] using hgb, by rw [takeAt_length]; omega⟩, fun x hx => .inl hx⟩
      generalize w.heap.size = s at *
      refine bodyPost_ret (v := .tuple #[.agg #[.int .i64 xi, .int .i64 (-xi)], .bool true]) ?_ rfl hfin
      simp [results, Try.results15, go_sem, c7]
end Go.Proofs.Ytnlfcfobdefflaa
