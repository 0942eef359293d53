/- Layouts: size, Check, Count, Size. -/
import Derived.Test.YtkkjlioigdpacaaLayP
namespace Go.Proofs.Ytkkjlioigdpacaa
open Go Go.RowKit Go.Stg

def firstErr : List Fld → Int
  | [] => 0
  | f :: r => if errF f ≠ 0 then errF f else firstErr r
theorem firstErr_good {fs : List Fld} (h : Good fs) : firstErr fs = 0 := by
  induction fs with
  | nil => rfl
  | cons f r ih => simp [firstErr, h f (by simp), ih (fun g hg => h g (by simp [hg]))]
theorem firstErr_at {fs : List Fld} {k : Nat} (hk : k < fs.length) (h : Good (fs.take k)) (he : errF fs[k] ≠ 0) : firstErr fs = errF fs[k] := by
  induction fs generalizing k with
  | nil => simp at hk
  | cons f r ih =>
    cases k with
    | zero => simp at he; simp [firstErr, he]
    | succ k =>
      have h0 : errF f = 0 := h f (by simp)
      simp only [firstErr, h0, ne_eq, not_true_eq_false, if_false, List.getElem_cons_succ]
      exact ih (by simpa using hk) (fun g hg => h g (by simp [hg])) (by simpa using he)
theorem good_snoc {fs : List Fld} {k : Nat} (hk : k < fs.length) (h : Good (fs.take k)) (he : errF fs[k] = 0) : Good (fs.take (k + 1)) := by
  rw [take_snoc fs hk]
  intro f hf
  rcases List.mem_append.1 hf with hf | hf
  · exact h f hf
  · rw [List.mem_singleton.1 hf]; exact he
def hd (fs : List Fld) : Fld := fs.headD (0, 0)
def sizeT (len : Int) (fs : List Fld) : Int := if 0 < len then len * wid (hd fs) else sizeR fs
def badT (len : Int) (fs : List Fld) : Prop := (len = 0 ∧ fs.length = 0) ∨ (0 < len ∧ fs.length ≠ 1)
instance badT.dec (len : Int) (fs : List Fld) : Decidable (badT len fs) := inferInstanceAs (Decidable (_ ∨ _))
def errT (len : Int) (fs : List Fld) : Int := if len < 0 then 3 else if 65536 < len then 4 else if badT len fs then 3 else if 32 < fs.length then 4 else if firstErr fs ≠ 0 then firstErr fs else if 65536 < sizeT len fs then 4 else 0

theorem size_ok (len : Int) (v : Value) (fs : List Fld) (w : World) (h : FieldsAt w v fs) (hg : Good fs) (hl : fs.length ≤ 100) (h0 : 0 ≤ len) (h1 : len ≤ 65536) (h2 : 0 < len → fs.length = 1) :
    Calls Try.prog 31 #[.agg #[.int .i64 len, v]] w fun e w' => e = .returned (.int .i64 (sizeT len fs)) ∧ Mod [] w w' := by
  have q0 := at_alloc w (.cells #[.int .i64 len, v] 31)
  have hm0 := (Mod.refl [] w).alloc (.cells #[.int .i64 len, v] 31)
  have h' := h.mod hm0
  go_enter Try.func31, Try.ntmps31
  by_cases hp : 0 < len
  · go_wp2_with fail
    have hone := h2 hp
    rcases h' with ⟨_, rfl⟩ | ⟨sb, so, cap, rfl, g2, g3, g4⟩
    · simp at hone
    · generalize w.alloc (.cells #[.int .i64 len, .slice (some ⟨sb, so, none⟩) fs.length cap] 31) = W at *
      have c1 := (g4 0 (by omega)).1
      have c2 := (g4 0 (by omega)).2
      have hgf := good_of (hg fs[0] (List.getElem_mem (by omega)))
      have hst : sizeT len fs = len * wid fs[0] := by
        unfold sizeT
        rw [if_pos hp]
        congr 2
        cases fs with
        | nil => simp at hone
        | cons f r => rfl
      have hstH := Lib.hid hst
      clear hst g4 hg h h2
      generalize fs[0] = f at *
      obtain ⟨fk, fc⟩ := f
      rw [hone]
      simp only [Nat.zero_mul, Nat.add_zero] at c1 c2
      have k1 := GW.cells (S := []) q0 (by simp)
      have k2 := GW.cell1 (S := []) c1 g2 (by simp)
      have k3 := GW.cell1 (S := []) c2 g2 (by simp)
      obtain ⟨_, _, e1, e2, _⟩ := hgf
      have hmul : len * wid (fk, fc) ≤ 65536 * 65536 := Int.mul_le_mul h1 e2 (by omega) (by omega)
      have hmul0 : 0 ≤ len * wid (fk, fc) := Int.mul_nonneg h0 (by omega)
      have hw : wrap64 (len * wid (fk, fc)) = len * wid (fk, fc) := by
        generalize len * wid (fk, fc) = z at *
        unfold wrap64
        omega
      refine wp_region_pure (by kernel_rfl) (by kernel_rfl) ?_
      refine stage_quiet 6 (by kernel_rfl) ?_
      simp only [List.take_succ_cons, List.take_zero, List.drop_succ_cons, List.drop_zero]
      repeat (go_big_quiet_step (fail))
      refine wpQuiet_nil ?_
      refine stage_pure 35 _ (.int .i64 (wid (fk, fc))) rfl Try.call35 rfl rfl (fun w' _ => width_ok fk fc w') ?_
      simp only [Act.put, List.setIfInBounds_toArray, List.set_cons_succ, List.set_cons_zero]
      refine stage_quiet 2 (by kernel_rfl) ?_
      simp only [List.take_succ_cons, List.take_zero, List.drop_succ_cons, List.drop_zero]
      repeat (go_big_quiet_step (fail))
      refine wpQuiet_nil ?_
      refine stage_nil fun w2 hm2 => ?_
      clear k1 k2 k3 c1 c2
      go_wp2_with fail
      go_ret
      refine ⟨?_, hm0.nil_then hm2⟩
      rw [hstH.out]
      rfl
  · have hgood := hg
    have hp1 := Lib.hid (places_ok v fs (-1) _ h' hg hl)
    obtain ⟨x, y, z0, ho⟩ := outC_size fs (-1) fs.length
    rw [ho] at hp1
    go_wp2_with fail
    refine hp1.out.mono ?_
    rintro e w1 ⟨rfl, hm1⟩
    go_wp2_with fail
    go_ret
    refine ⟨?_, (hm0.nil_then hm1).alloc _⟩
    unfold sizeT
    rw [if_neg (by omega)]
    rfl
def typeV (len : Int) (v : Value) : Value := .agg #[.int .i64 len, v]
set_option maxHeartbeats 4000000 in
set_option maxRecDepth 10000 in
theorem check_ok (len : Int) (v : Value) (fs : List Fld) (w : World) (h : FieldsAt w v fs) (hn : -9223372036854775808 ≤ len) (hn2 : len ≤ 9223372036854775807) :
    Calls Try.prog 19 #[.agg #[.int .i64 len, v]] w fun e w' => e = .returned (.int .i64 (errT len fs)) ∧ Mod [] w w' := by
  have q0 := at_alloc w (.cells #[.int .i64 len, v] 31)
  have hm0 := (Mod.refl [] w).alloc (.cells #[.int .i64 len, v] 31)
  have h' := h.mod hm0
  have hln := fun ty w => h.len ty w
  have hsm := h.small
  have hE : errT len fs = if len < 0 then 3 else if 65536 < len then 4 else if badT len fs then 3 else if 32 < fs.length then 4 else if firstErr fs ≠ 0 then firstErr fs else if 65536 < sizeT len fs then 4 else 0 := rfl
  by_cases t1 : len < 0
  · rw [if_pos t1] at hE
    rw [hE]
    clear hE h h'
    go_enter Try.func19, Try.ntmps19
    go_wp2_with fail
    go_ret
    exact ⟨rfl, hm0⟩
  · rw [if_neg t1] at hE
    by_cases t2 : 65536 < len
    · rw [if_pos t2] at hE
      rw [hE]
      clear hE h h'
      go_enter Try.func19, Try.ntmps19
      go_wp2_with fail
      go_ret
      exact ⟨rfl, hm0⟩
    · rw [if_neg t2] at hE
      by_cases t3 : badT len fs
      · rw [if_pos t3] at hE
        rw [hE]
        clear hE h h'
        rcases t3 with ⟨t3, t4⟩ | ⟨t3, t4⟩
        · subst t3
          rw [t4] at hln
          go_enter Try.func19, Try.ntmps19
          go_wp2_with fail
          go_ret
          exact ⟨rfl, hm0⟩
        · have t5 : ¬ (len = 0) := by omega
          go_enter Try.func19, Try.ntmps19
          go_wp2_with fail
          go_ret
          exact ⟨rfl, hm0⟩
      · rw [if_neg t3] at hE
        by_cases t4 : 32 < fs.length
        · rw [if_pos t4] at hE
          rw [hE]
          clear hE h h'
          by_cases t5 : len = 0
          · subst t5
            have t6 : ((fs.length : Int) == 0) = false := by simp only [beq_eq_false_iff_ne]; omega
            clear t3
            go_enter Try.func19, Try.ntmps19
            go_wp2_with fail
            go_ret
            exact ⟨rfl, hm0⟩
          · exact absurd (.inr ⟨by omega, by omega⟩) t3
        · rw [if_neg t4] at hE
          have hEH := Lib.hid hE
          clear hE
          by_cases t5 : len = 0
          · subst t5
            have t6 : ((fs.length : Int) == 0) = false := by
              simp only [beq_eq_false_iff_ne]
              intro e
              exact t3 (.inl ⟨rfl, by omega⟩)
            have t7 : (0 : Int) < 0 → fs.length = 1 := fun h => absurd h (by omega)
            clear t3
            go_enter Try.func19, Try.ntmps19
            go_wp2_with fail
            have hT := Lib.hid (t7)
            clear t6
            generalize w.alloc (.cells #[.int .i64 (0), v] 31) = W at *
            go_loopw [43] (fun i wr => ∃ k : Nat, k ≤ fs.length ∧ i = .int .i64 k ∧ Mod [] W wr ∧ Good (fs.take k)) (fun i _ => fs.length - (intOf i).toNat)
            case atStart => exact ⟨0, by omega, rfl, Mod.refl _ _, by simp [Good]⟩
            case round =>
              obtain ⟨k, hk, rfl, hm, hgk⟩ := hrel
              by_cases hlt : k < fs.length
              · rcases h' with ⟨_, rfl⟩ | ⟨sb, so, cap, rfl, g2, g3, g4⟩
                · simp at hlt
                · have c1 := (cell_mod hm g2 (by simp)).trans (g4 k hlt).1
                  have c2 := (cell_mod hm g2 (by simp)).trans (g4 k hlt).2
                  have hfe := firstErr_at hlt hgk
                  have hgs := good_snoc hlt hgk
                  clear g4 hgk h
                  generalize fs[k] = f at *
                  obtain ⟨fk, fc⟩ := f
                  simp only at c1 c2
                  go_wp2_with fail
                  refine (checkF_ok fk fc _).mono ?_
                  rintro e w1 ⟨rfl, hm1⟩
                  by_cases he : errF (fk, fc) = 0
                  · have hgs := hgs he
                    clear hfe c1 c2
                    rw [he]
                    go_wp2_with fail
                    go_roundw
                    case rel => exact ⟨k + 1, by omega, by go_num, (hm.alloc _).nil_then hm1, hgs⟩
                    case measure => simp [intOf]; omega
                  · have hfe := hfe he
                    clear hgs c1 c2
                    go_wp2_with fail
                    go_ret
                    refine ⟨?_, (hm0.nil_then (hm.alloc _)).nil_then hm1⟩
                    rw [hEH.out, hfe, if_pos he]
                    rfl
              · obtain rfl : k = fs.length := by omega
                rw [List.take_length] at hgk
                have hr := hm.at q0 (by simp)
                have cb := cells_of hr
                have hfirst := firstErr_good hgk
                clear h
                go_wp2_with fail
                refine (size_ok (0) v fs _ (h'.mod hm) hgk (by omega) (by omega) (by omega) hT.out).mono ?_
                rintro e w1 ⟨rfl, hm1⟩
                by_cases hbig : 65536 < sizeT (0) fs
                · go_wp2_with fail
                  go_ret
                  refine ⟨?_, (hm0.nil_then hm).nil_then hm1⟩
                  rw [hEH.out, hfirst, if_neg (by simp), if_pos hbig]
                  rfl
                · go_wp2_with fail
                  go_ret
                  refine ⟨?_, (hm0.nil_then hm).nil_then hm1⟩
                  rw [hEH.out, hfirst, if_neg (by simp), if_neg (by omega)]
                  rfl
          · have t60 : fs.length = 1 := by
              by_cases e : fs.length = 1
              · exact e
              · exact absurd (.inr ⟨by omega, e⟩) t3
            have t7 : 0 < len → fs.length = 1 := fun _ => t60
            have t8 : 0 < len := by omega
            have t9 := Lib.hid t7
            have t6 : ((fs.length : Int) == 1) = true := by simp [t60]
            clear t3 t7 t60
            go_enter Try.func19, Try.ntmps19
            go_wp2_with fail
            have hT := Lib.hid (t9.out)
            clear t6
            generalize w.alloc (.cells #[.int .i64 (len), v] 31) = W at *
            go_loopw [43] (fun i wr => ∃ k : Nat, k ≤ fs.length ∧ i = .int .i64 k ∧ Mod [] W wr ∧ Good (fs.take k)) (fun i _ => fs.length - (intOf i).toNat)
            case atStart => exact ⟨0, by omega, rfl, Mod.refl _ _, by simp [Good]⟩
            case round =>
              obtain ⟨k, hk, rfl, hm, hgk⟩ := hrel
              by_cases hlt : k < fs.length
              · rcases h' with ⟨_, rfl⟩ | ⟨sb, so, cap, rfl, g2, g3, g4⟩
                · simp at hlt
                · have c1 := (cell_mod hm g2 (by simp)).trans (g4 k hlt).1
                  have c2 := (cell_mod hm g2 (by simp)).trans (g4 k hlt).2
                  have hfe := firstErr_at hlt hgk
                  have hgs := good_snoc hlt hgk
                  clear g4 hgk h
                  generalize fs[k] = f at *
                  obtain ⟨fk, fc⟩ := f
                  simp only at c1 c2
                  go_wp2_with fail
                  refine (checkF_ok fk fc _).mono ?_
                  rintro e w1 ⟨rfl, hm1⟩
                  by_cases he : errF (fk, fc) = 0
                  · have hgs := hgs he
                    clear hfe c1 c2
                    rw [he]
                    go_wp2_with fail
                    go_roundw
                    case rel => exact ⟨k + 1, by omega, by go_num, (hm.alloc _).nil_then hm1, hgs⟩
                    case measure => simp [intOf]; omega
                  · have hfe := hfe he
                    clear hgs c1 c2
                    go_wp2_with fail
                    go_ret
                    refine ⟨?_, (hm0.nil_then (hm.alloc _)).nil_then hm1⟩
                    rw [hEH.out, hfe, if_pos he]
                    rfl
              · obtain rfl : k = fs.length := by omega
                rw [List.take_length] at hgk
                have hr := hm.at q0 (by simp)
                have cb := cells_of hr
                have hfirst := firstErr_good hgk
                clear h
                go_wp2_with fail
                refine (size_ok (len) v fs _ (h'.mod hm) hgk (by omega) (by omega) (by omega) hT.out).mono ?_
                rintro e w1 ⟨rfl, hm1⟩
                by_cases hbig : 65536 < sizeT (len) fs
                · go_wp2_with fail
                  go_ret
                  refine ⟨?_, (hm0.nil_then hm).nil_then hm1⟩
                  rw [hEH.out, hfirst, if_neg (by simp), if_pos hbig]
                  rfl
                · go_wp2_with fail
                  go_ret
                  refine ⟨?_, (hm0.nil_then hm).nil_then hm1⟩
                  rw [hEH.out, hfirst, if_neg (by simp), if_neg (by omega)]
                  rfl
end Go.Proofs.Ytkkjlioigdpacaa
