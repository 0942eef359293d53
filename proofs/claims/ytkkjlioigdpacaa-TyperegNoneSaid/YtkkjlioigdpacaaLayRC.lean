/- Layouts: the definition's Check. -/
import Derived.Test.YtkkjlioigdpacaaLayR
namespace Go.Proofs.Ytkkjlioigdpacaa
open Go Go.RowKit Go.Stg
set_option maxHeartbeats 4000000 in
set_option maxRecDepth 10000 in
theorem rcheck_ok (len : Int) (v : Value) (fs : List Fld) (w : World) (h : FieldsAt w v fs) (hn : -9223372036854775808 ≤ len) (hn2 : len ≤ 9223372036854775807) :
    Calls Try.prog 27 #[.agg #[.int .i64 len, v]] w fun e w' => e = .returned (.int .i64 (errT len fs)) ∧ Mod [] w w' := by
  have q0 := at_alloc w (.cells #[.int .i64 len, v] 31)
  have hm0 := (Mod.refl [] w).alloc (.cells #[.int .i64 len, v] 31)
  have h' := h.mod hm0
  have hln := fun ty w => h.len ty w
  have hsm := h.small
  have hE : errT len fs = if len < 0 then 3 else if 65536 < len then 4 else if badT len fs then 3 else if 32 < fs.length then 4 else if firstErr fs ≠ 0 then firstErr fs else if 65536 < sizeT len fs then 4 else 0 := rfl
  by_cases t1 : len < 0
  · rw [if_pos t1] at hE
    rw [hE]
    clear hE h h'
    go_enter Try.func27, Try.ntmps27
    go_wp2_with fail
    go_ret
    exact ⟨rfl, hm0⟩
  · rw [if_neg t1] at hE
    by_cases t2 : 65536 < len
    · rw [if_pos t2] at hE
      rw [hE]
      clear hE h h'
      go_enter Try.func27, Try.ntmps27
      go_wp2_with fail
      go_ret
      exact ⟨rfl, hm0⟩
    · rw [if_neg t2] at hE
      by_cases t3 : badT len fs
      · rw [if_pos t3] at hE
        rw [hE]
        clear hE h h'
        rcases t3 with ⟨t3, t4⟩ | ⟨t3, t4⟩
        · subst t3
          rw [t4] at hln
          go_enter Try.func27, Try.ntmps27
          go_wp2_with fail
          go_ret
          exact ⟨rfl, hm0⟩
        · have t5 : ¬ (len = 0) := by omega
          go_enter Try.func27, Try.ntmps27
          go_wp2_with fail
          go_ret
          exact ⟨rfl, hm0⟩
      · rw [if_neg t3] at hE
        by_cases t4 : 32 < fs.length
        · rw [if_pos t4] at hE
          rw [hE]
          clear hE h h'
          by_cases t5 : len = 0
          · subst t5
            have t6 : ((fs.length : Int) == 0) = false := by simp only [beq_eq_false_iff_ne]; omega
            clear t3
            go_enter Try.func27, Try.ntmps27
            go_wp2_with fail
            go_ret
            exact ⟨rfl, hm0⟩
          · exact absurd (.inr ⟨by omega, by omega⟩) t3
        · rw [if_neg t4] at hE
          have hEH := Lib.hid hE
          clear hE
          by_cases t5 : len = 0
          · subst t5
            have t6 : ((fs.length : Int) == 0) = false := by
              simp only [beq_eq_false_iff_ne]
              intro e
              exact t3 (.inl ⟨rfl, by omega⟩)
            have t7 : (0 : Int) < 0 → fs.length = 1 := fun h => absurd h (by omega)
            clear t3
            go_enter Try.func27, Try.ntmps27
            go_wp2_with fail
            have hT := Lib.hid (t7)
            clear t6
            generalize w.alloc (.cells #[.int .i64 (0), v] 31) = W at *
            go_loopw [3] (fun i wr => ∃ k : Nat, k ≤ fs.length ∧ i = .int .i64 k ∧ Mod [] W wr ∧ Good (fs.take k)) (fun i _ => fs.length - (intOf i).toNat)
            case atStart => exact ⟨0, by omega, rfl, Mod.refl _ _, by simp [Good]⟩
            case round =>
              obtain ⟨k, hk, rfl, hm, hgk⟩ := hrel
              have cb := cells_of (hm.at q0 (by simp))
              by_cases hlt : k < fs.length
              · rcases h' with ⟨_, rfl⟩ | ⟨sb, so, cap, rfl, g2, g3, g4⟩
                · simp at hlt
                · have c1 := (cell_mod hm g2 (by simp)).trans (g4 k hlt).1
                  have c2 := (cell_mod hm g2 (by simp)).trans (g4 k hlt).2
                  have hfe := firstErr_at hlt hgk
                  have hgs := good_snoc hlt hgk
                  clear g4 hgk h
                  generalize fs[k] = f at *
                  obtain ⟨fk, fc⟩ := f
                  simp only at c1 c2
                  by_cases a1 : fk < 1
                  · have he : errF (fk, fc) = 8 := by simp [errF, a1]
                    have hfe := hfe (by rw [he]; decide)
                    rw [he] at hfe
                    clear hgs he
                    go_wp2_with fail
                    go_ret
                    refine ⟨?_, hm0.nil_then (hm.alloc _)⟩
                    rw [hEH.out, hfe, if_pos (by decide)]
                    rfl
                  · by_cases a2 : 6 < fk
                    · have he : errF (fk, fc) = 8 := by simp [errF, a2]
                      have hfe := hfe (by rw [he]; decide)
                      rw [he] at hfe
                      clear hgs he
                      go_wp2_with fail
                      go_ret
                      refine ⟨?_, hm0.nil_then (hm.alloc _)⟩
                      rw [hEH.out, hfe, if_pos (by decide)]
                      rfl
                    · by_cases a3 : fk = 6
                      · subst a3
                        by_cases a4 : fc < 1
                        · have he : errF (6, fc) = 3 := by simp [errF, a4]
                          have hfe := hfe (by rw [he]; decide)
                          rw [he] at hfe
                          clear hgs he
                          go_wp2_with fail
                          go_ret
                          refine ⟨?_, hm0.nil_then (hm.alloc _)⟩
                          rw [hEH.out, hfe, if_pos (by decide)]
                          rfl
                        · by_cases a5 : 65536 < fc
                          · have he : errF (6, fc) = 4 := by simp [errF, a4, a5]
                            have hfe := hfe (by rw [he]; decide)
                            rw [he] at hfe
                            clear hgs he
                            go_wp2_with fail
                            go_ret
                            refine ⟨?_, hm0.nil_then (hm.alloc _)⟩
                            rw [hEH.out, hfe, if_pos (by decide)]
                            rfl
                          · have he : errF (6, fc) = 0 := by simp [errF, a4, a5]
                            have hgs := hgs he
                            clear hfe he
                            go_wp2_with fail
                            go_roundw
                            case rel => exact ⟨k + 1, by omega, by go_num, hm.alloc _, hgs⟩
                            case measure => simp [intOf]; omega
                      · by_cases a4 : fc = 0
                        · subst a4
                          have he : errF (fk, 0) = 0 := by simp [errF, a1, a2, a3]
                          have hgs := hgs he
                          clear hfe he
                          go_wp2_with fail
                          go_roundw
                          case rel => exact ⟨k + 1, by omega, by go_num, hm.alloc _, hgs⟩
                          case measure => simp [intOf]; omega
                        · have he : errF (fk, fc) = 3 := by simp [errF, a1, a2, a3, a4]
                          have a5 : (fc != 0) = true := by simpa using a4
                          have a6 : (fc == 0) = false := by simpa using a4
                          have hfe := hfe (by rw [he]; decide)
                          rw [he] at hfe
                          clear hgs he
                          go_wp2_with fail
                          go_ret
                          refine ⟨?_, hm0.nil_then (hm.alloc _)⟩
                          rw [hEH.out, hfe, if_pos (by decide)]
                          rfl
              · obtain rfl : k = fs.length := by omega
                rw [List.take_length] at hgk
                have hr := hm.at q0 (by simp)
                have hfirst := firstErr_good hgk
                clear h
                have hP := Lib.hid (rplaces_ok v fs _ (h'.mod hm) hgk (by omega))
                have hs0 : sizeT 0 fs = sizeR fs := by simp [sizeT]
                go_wp2_with fail
                refine hP.out.mono ?_
                rintro e w1 ⟨pv, rfl, hm1, _⟩
                rw [hs0] at hEH
                by_cases hbig : 65536 < sizeR fs
                · go_wp2_with fail
                  go_ret
                  refine ⟨?_, (hm0.nil_then hm).nil_then hm1⟩
                  rw [hEH.out, hfirst, if_neg (by simp), if_pos hbig]
                  rfl
                · go_wp2_with fail
                  go_ret
                  refine ⟨?_, (hm0.nil_then hm).nil_then hm1⟩
                  rw [hEH.out, hfirst, if_neg (by simp), if_neg (by omega)]
                  rfl
          · have t60 : fs.length = 1 := by
              by_cases e : fs.length = 1
              · exact e
              · exact absurd (.inr ⟨by omega, e⟩) t3
            have t7 : 0 < len → fs.length = 1 := fun _ => t60
            have t8 : 0 < len := by omega
            have t9 := Lib.hid t7
            have t6 : ((fs.length : Int) == 1) = true := by simp [t60]
            clear t3 t7 t60
            go_enter Try.func27, Try.ntmps27
            go_wp2_with fail
            have hT := Lib.hid (t9.out)
            clear t6
            generalize w.alloc (.cells #[.int .i64 (len), v] 31) = W at *
            go_loopw [3] (fun i wr => ∃ k : Nat, k ≤ fs.length ∧ i = .int .i64 k ∧ Mod [] W wr ∧ Good (fs.take k)) (fun i _ => fs.length - (intOf i).toNat)
            case atStart => exact ⟨0, by omega, rfl, Mod.refl _ _, by simp [Good]⟩
            case round =>
              obtain ⟨k, hk, rfl, hm, hgk⟩ := hrel
              have cb := cells_of (hm.at q0 (by simp))
              by_cases hlt : k < fs.length
              · rcases h' with ⟨_, rfl⟩ | ⟨sb, so, cap, rfl, g2, g3, g4⟩
                · simp at hlt
                · have c1 := (cell_mod hm g2 (by simp)).trans (g4 k hlt).1
                  have c2 := (cell_mod hm g2 (by simp)).trans (g4 k hlt).2
                  have hfe := firstErr_at hlt hgk
                  have hgs := good_snoc hlt hgk
                  clear g4 hgk h
                  generalize fs[k] = f at *
                  obtain ⟨fk, fc⟩ := f
                  simp only at c1 c2
                  by_cases a1 : fk < 1
                  · have he : errF (fk, fc) = 8 := by simp [errF, a1]
                    have hfe := hfe (by rw [he]; decide)
                    rw [he] at hfe
                    clear hgs he
                    go_wp2_with fail
                    go_ret
                    refine ⟨?_, hm0.nil_then (hm.alloc _)⟩
                    rw [hEH.out, hfe, if_pos (by decide)]
                    rfl
                  · by_cases a2 : 6 < fk
                    · have he : errF (fk, fc) = 8 := by simp [errF, a2]
                      have hfe := hfe (by rw [he]; decide)
                      rw [he] at hfe
                      clear hgs he
                      go_wp2_with fail
                      go_ret
                      refine ⟨?_, hm0.nil_then (hm.alloc _)⟩
                      rw [hEH.out, hfe, if_pos (by decide)]
                      rfl
                    · by_cases a3 : fk = 6
                      · subst a3
                        by_cases a4 : fc < 1
                        · have he : errF (6, fc) = 3 := by simp [errF, a4]
                          have hfe := hfe (by rw [he]; decide)
                          rw [he] at hfe
                          clear hgs he
                          go_wp2_with fail
                          go_ret
                          refine ⟨?_, hm0.nil_then (hm.alloc _)⟩
                          rw [hEH.out, hfe, if_pos (by decide)]
                          rfl
                        · by_cases a5 : 65536 < fc
                          · have he : errF (6, fc) = 4 := by simp [errF, a4, a5]
                            have hfe := hfe (by rw [he]; decide)
                            rw [he] at hfe
                            clear hgs he
                            go_wp2_with fail
                            go_ret
                            refine ⟨?_, hm0.nil_then (hm.alloc _)⟩
                            rw [hEH.out, hfe, if_pos (by decide)]
                            rfl
                          · have he : errF (6, fc) = 0 := by simp [errF, a4, a5]
                            have hgs := hgs he
                            clear hfe he
                            go_wp2_with fail
                            go_roundw
                            case rel => exact ⟨k + 1, by omega, by go_num, hm.alloc _, hgs⟩
                            case measure => simp [intOf]; omega
                      · by_cases a4 : fc = 0
                        · subst a4
                          have he : errF (fk, 0) = 0 := by simp [errF, a1, a2, a3]
                          have hgs := hgs he
                          clear hfe he
                          go_wp2_with fail
                          go_roundw
                          case rel => exact ⟨k + 1, by omega, by go_num, hm.alloc _, hgs⟩
                          case measure => simp [intOf]; omega
                        · have he : errF (fk, fc) = 3 := by simp [errF, a1, a2, a3, a4]
                          have a5 : (fc != 0) = true := by simpa using a4
                          have a6 : (fc == 0) = false := by simpa using a4
                          have hfe := hfe (by rw [he]; decide)
                          rw [he] at hfe
                          clear hgs he
                          go_wp2_with fail
                          go_ret
                          refine ⟨?_, hm0.nil_then (hm.alloc _)⟩
                          rw [hEH.out, hfe, if_pos (by decide)]
                          rfl
              · obtain rfl : k = fs.length := by omega
                rw [List.take_length] at hgk
                have hr := hm.at q0 (by simp)
                have hfirst := firstErr_good hgk
                clear h
                have hone := hT.out t8
                rcases h'.mod hm with ⟨_, rfl⟩ | ⟨sb, so, cap, rfl, g2, g3, g4⟩
                · simp at hone
                · have c1 := (g4 0 (by omega)).1
                  have c2 := (g4 0 (by omega)).2
                  have hgf := good_of (hgk fs[0] (List.getElem_mem (by omega)))
                  have hst : sizeT len fs = len * wid fs[0] := by
                    unfold sizeT
                    rw [if_pos t8, hd_eq hone]
                  clear g4 hgk h'
                  generalize fs[0] = f at *
                  obtain ⟨fk, fc⟩ := f
                  simp only [Nat.zero_mul, Nat.add_zero] at c1 c2
                  obtain ⟨f1, f2, f3, f4, _⟩ := hgf
                  have hmul : len * wid (fk, fc) ≤ 65536 * 65536 := Int.mul_le_mul (by omega) f4 (by omega) (by omega)
                  have hmul0 : 0 ≤ len * wid (fk, fc) := Int.mul_nonneg (by omega) (by omega)
                  rw [hst] at hEH
                  have hcm : wid (fk, fc) * len = len * wid (fk, fc) := Int.mul_comm _ _
                  have hw : wrap64 (len * wid (fk, fc)) = len * wid (fk, fc) := by
                    generalize len * wid (fk, fc) = z at *
                    unfold wrap64
                    omega
                  have h10 : 0 < fs.length := by omega
                  clear hone hst hT t9
                  go_wp2_with fail
                  refine (rwidth_ok fk fc f1 f2 _).mono ?_
                  rintro e w1 ⟨rfl, hm1⟩
                  have cb := cells_of (hm1.at hr (by simp))
                  generalize wid (fk, fc) = wd at *
                  rw [← hcm] at hEH hw
                  clear hcm
                  by_cases hbig : 65536 < wd * len
                  · go_wp2_with fail
                    go_ret
                    refine ⟨?_, (hm0.nil_then hm).nil_then hm1⟩
                    rw [hEH.out, hfirst, if_neg (by simp), if_pos hbig]
                    rfl
                  · go_wp2_with fail
                    go_ret
                    refine ⟨?_, (hm0.nil_then hm).nil_then hm1⟩
                    rw [hEH.out, hfirst, if_neg (by simp), if_neg (by omega)]
                    rfl
end Go.Proofs.Ytkkjlioigdpacaa
