/- Borrows: Lend. -/
import Derived.Test.YtappkiiihnaegaaBCnt
namespace Go.Proofs.Ytappkiiihnaegaa
open Go Go.RowKit Go.Stg

theorem new_ok (w : World) : Calls Try.prog 10 #[] w fun e w' => e = .returned (.pointer (some ⟨w.heap.size, 0, none⟩)) ∧ Mod [] w w' ∧ (ledC w.heap.size []).on w' [w.heap.size] := by
  go_enter Try.func10, Try.ntmps10
  go_wp2_with fail
  go_ret
  exact ⟨rfl, (Mod.refl _ _).alloc _, .inl ⟨at_alloc _ _, rfl, rfl⟩⟩
theorem Takes.same {c : Comp} {v : Value} {w w' : World} {f : List Nat} (h : c.on w f) (hm : Mod [] w w') : Takes c v w f (.returned v) w' :=
  ⟨f, rfl, c.keep h hm (by simp), hm.mono (by simp), fun _ hx => .inl hx⟩
theorem lend_put {L : List Bor} {o k m : Int} (hE : lendE L o m = 0) {n : Int} (hn : n = cntOf L (o, k) + 1) : lendL L o k m = putB L ((o, k), (m, n)) := by
  unfold lendL; rw [if_pos hE, hn]
set_option maxHeartbeats 1600000 in
set_option maxRecDepth 10000 in
theorem lend_ok {w : World} {b : Nat} {L : List Bor} {f : List Nat} (h : (ledC b L).on w f) {N : Int} (hI : LInv N L) (h0 : 0 ≤ N) (hN : N ≤ 1000000) (hl : L.length ≤ 1000000) (o k m : Int) :
    Calls Try.prog 12 #[.pointer (some ⟨b, 0, none⟩), .int .i64 o, .int .i64 k, .int .i64 m] w (Takes (ledC b (lendL L o k m)) (.int .i64 (lendE L o m)) w f) := by
  have hmo := Lib.hid (mode_ok (LedV.of h) hI.srt hl o)
  have hhH := Lib.hid h
  by_cases hm12 : m ≠ 1 ∧ m ≠ 2
  · have hE : lendE L o m = 1 := by unfold lendE; rw [if_pos hm12]
    have hL : lendL L o k m = L := by unfold lendL; rw [hE]; rfl
    rw [hE, hL]
    have z1 : (m != 1) = true := by simpa using hm12.1
    have z2 : (m != 2) = true := by simpa using hm12.2
    clear h hI hE hL hm12
    go_enter Try.func12, Try.ntmps12
    go_wp2_with fail
    go_ret
    exact Takes.same hhH.out (Mod.refl _ _)
  · have hnil : ∀ (w : World) (r : Option Nat), (binOp .eql 52 (.map r) (.map none)).run Try.prog w = .ok (.bool r.isNone) w := fun w r => run_eql_map_nil w _ _ _ r Try.underlying52
    by_cases hE : lendE L o m = 0
    · have hm12' : m = 1 ∨ m = 2 := by omega
      have hc : modeO L o = 0 ∨ (modeO L o = 1 ∧ m = 1) := by
        have hr := modeO_range hI o
        unfold lendE at hE; rw [if_neg hm12] at hE
        split at hE
        · cases hE
        · omega
      have hsrt := Lib.hid hI.srt
      have hcr := cntOf_range hI h0 (o, k)
      have hlm := Lib.hid fun (x : Bor) (hg : getB L (o, k) = some x) => lend_mode hI hg hE
      have hLL := Lib.hid fun (n : Int) (hn : n = cntOf L (o, k) + 1) => lend_put hE hn
      rw [hE]
      generalize lendL L o k m = L' at *
      clear hm12 hE hI
      obtain ⟨x, hx⟩ : ∃ x, x = (getB L (o, k)).getD b0 := ⟨_, rfl⟩
      obtain ⟨fl, hfl⟩ : ∃ fl, fl = (getB L (o, k)).isSome := ⟨_, rfl⟩
      have hfvL : foundV (getB L (o, k)) = .tuple #[bv x, .bool fl] := by rw [foundV_eq, hx, hfl]
      obtain ⟨⟨xo, xh⟩, xm, xc⟩ := x
      have hmz : L = [] → modeO L o = 0 := fun h => by rw [h]; rfl
      generalize modeO L o = mo at *
      rcases h with ⟨hb, hL, rfl⟩ | ⟨a, c, bs, hb, hab, hcb, hac, hM, hp, hC, rfl⟩
      · subst hL
        have hbH := Lib.hid hb
        have hxH := Lib.hid hx
        have hflH := Lib.hid hfl
        have hfv : Hid (foundV (getB [] (o, k)) = .tuple #[.agg #[.int .i64 xo, .int .i64 xh, .int .i64 xm, .int .i64 xc], .bool fl]) := Lib.hid (by rw [hfvL]; rfl)
        clear hfvL hb hx hfl
        rcases hm12' with rfl | rfl <;> rcases hc with rfl | ⟨rfl, hc⟩
        · go_enter Try.func12, Try.ntmps12
          go_wp2_with fail
          refine hmo.out.mono ?_
          rintro e w1 ⟨rfl, hm1⟩
          have hb1 := hm1.at hbH.out (by simp)
          have hb1H := Lib.hid hb1
          have hba := lt_of hb1
          have hba2 := Nat.lt_succ_of_lt hba
          have hcx := cells_of hb1
          have hfx := frozen_of hb1
          have hm1H := Lib.hid hm1
          clear hm1 hmo hb1
          have hmm1 := fun w => run_makeMap (P := Try.prog) 52 w
          have hmm2 := fun w => run_makeMap (P := Try.prog) 53 w
          go_wp2_with fail
          clear hcx hfx hmm1 hmm2
          have e1 := at_setCell (o := 1) (v := .map (some (w1.heap.size + 1))) (at_setCell (o := 0) (v := .map (some w1.heap.size)) hb1H.out)
          simp only [List.setIfInBounds_toArray, List.set_cons_succ, List.set_cons_zero] at e1
          have e4 := ((hm1H.out.mono (T := [b]) (by simp)).setCell (p := ⟨b, 0, none⟩) (.inl (by simp)) (.map (some w1.heap.size))).setCell (p := ⟨b, 1, none⟩) (.inl (by simp)) (.map (some (w1.heap.size + 1)))
          have hsz : ((w1.setCell ⟨b, 0, none⟩ (.map (some w1.heap.size))).setCell ⟨b, 1, none⟩ (.map (some (w1.heap.size + 1)))).heap.size = w1.heap.size := by simp [World.setCell]
          generalize (w1.setCell ⟨b, 0, none⟩ (.map (some w1.heap.size))).setCell ⟨b, 1, none⟩ (.map (some (w1.heap.size + 1))) = w3 at *
          have e1 := at_alloc_old (o := .map #[] 0) (at_alloc_old (o := .map #[] 0) e1)
          have e2 := at_alloc_old (o := .map #[] 0) (at_alloc w3 (.map #[] 0))
          have e3 := at_alloc (w3.alloc (.map #[] 0)) (.map #[] 0)
          have hsz2 : (w3.alloc (.map #[] 0)).heap.size = w1.heap.size + 1 := by simp [hsz]
          rw [hsz] at e2
          rw [hsz2] at e3
          have e4 := (e4.alloc (.map #[] 0)).alloc (.map #[] 0)
          have hab : Hid (w1.heap.size ≠ b) := Lib.hid (Nat.ne_of_gt hba)
          have hcb : Hid (w1.heap.size + 1 ≠ b) := Lib.hid (Nat.ne_of_gt (Nat.lt_succ_of_lt hba))
          have hac : Hid (w1.heap.size ≠ w1.heap.size + 1) := Lib.hid (Nat.ne_of_lt (Nat.lt_succ_self _))
          have hTa : Hid (w1.heap.size ∈ [b] ∨ w.heap.size ≤ w1.heap.size) := Lib.hid (.inr hm1H.out.size)
          have hTc : Hid (w1.heap.size + 1 ∈ [b] ∨ w.heap.size ≤ w1.heap.size + 1) := Lib.hid (.inr (Nat.le_succ_of_le hm1H.out.size))
          have hk2 : ((w3.alloc (.map #[] 0)).alloc (.map #[] 0)).heap.size = w1.heap.size + 1 + 1 := by simp [hsz]
          clear hba hsz hsz2 hba2
          generalize (w3.alloc (.map #[] 0)).alloc (.map #[] 0) = w2 at *
          clear hm1H hb1H
          generalize hcc : w1.heap.size + 1 = c at *
          generalize w1.heap.size = a at *
          clear hcc
          have hb2 := Lib.hid e1
          have hM2 := Lib.hid (MapIs.empty e2)
          have hC2 := Lib.hid (CntAt.nil.is e3)
          have hm2 := Lib.hid e4
          have hpH := Lib.hid (List.Perm.refl ([] : List Bor))
          have hnodH : Hid ((([] : List Bor)).map (·.1)).Nodup := Lib.hid List.nodup_nil
          rw [← hk2]
          clear e1 e2 e3 e4 hk2
          have hkA := at_alloc w2 (.cells #[.int .i64 o, .int .i64 k] 58)
          have hmA := (Mod.refl [] w2).alloc (.cells #[.int .i64 o, .int .i64 k] 58)
          have hlt2 := (hM2.out.lt)
          have hkl := lt_of hkA
          have hltc := (hC2.out.lt)
          have hltb := lt_of hb2.out
          generalize hks : w2.heap.size = kb at *
          generalize w2.alloc (.cells #[.int .i64 o, .int .i64 k] 58) = W at *
          have hbW := hmA.at hb2.out (by simp)
          have hMW := hM2.out.mod hmA (by simp)
          have hCW := Lib.hid (hC2.out.mod hmA (by simp))
          have hmF := Lib.hid (hm2.out.nil_then hmA)
          have q1 := GW.cells (S := []) hbW (by simp)
          have q2 := GW.cells (S := []) hkA (by simp)
          have q3 : ∀ x : GW [] W, (Instr.lookup 52 (.map (some a)) (.agg #[.int .i64 o, .int .i64 k]) true).run Try.prog x.1 = .ok (.tuple #[.agg #[.int .i64 xo, .int .i64 xh, .int .i64 xm, .int .i64 xc], .bool fl]) x.1 := fun x => by rw [look_b (hMW.mod x.2 (by simp)) (o, k)]; exact congrArg (fun v => Result.ok v x.1) hfv.out
          have hWs := Lib.hid hmA.size
          have hbWH := Lib.hid hbW
          have hMWH := Lib.hid hMW
          have hkWH := Lib.hid hkA
          clear hmA hkA hbW hMW
          refine wp_region_stage (fun w' => ∃ x : GW [] W, w' = x.1) (fun w' => Mod [] W w') (by kernel_rfl) (by kernel_rfl) (fun _ h => InGW.of h) (Mod.refl _ _).drew ?_
          refine stage_quiet 9 (by kernel_rfl) ?_
          simp only [List.take_succ_cons, List.take_zero, List.drop_succ_cons, List.drop_zero]
          repeat (go_big_quiet_step (fail))
          refine wpQuiet_nil ?_
          refine stage_alloc (fun s => .pointer (some ⟨s, 0, none⟩)) (.cells #[.int .i64 0, .int .i64 0, .int .i64 0, .int .i64 0] 25 (0, 0)) (fun s w' => Mod [] W w' ∧ W.heap.size ≤ s ∧ w'.heap[s]? = some (.cells #[.int .i64 0, .int .i64 0, .int .i64 0, .int .i64 0] 25 (0, 0))) (by intro s s' h; simpa using h) rfl rfl (fun w' hw => ?_) (fun w' hw => ⟨hw.alloc _, hw.size, at_alloc _ _⟩) (fun s w' h => InGW.of h.1) (fun s => ?_)
          · kernel_rfl
          simp only [Act.put, List.setIfInBounds_toArray, List.set_cons_succ, List.set_cons_zero]
          refine stage_write (fun w' => Mod [] W w' ∧ W.heap.size ≤ s ∧ w'.heap[s]? = some (.cells #[.int .i64 xo, .int .i64 xh, .int .i64 xm, .int .i64 xc] 25 (0, 0))) rfl rfl (fun w' h => ⟨(((w'.setCell ⟨s, 0, none⟩ (.int .i64 xo)).setCell ⟨s, 1, none⟩ (.int .i64 xh)).setCell ⟨s, 2, none⟩ (.int .i64 xm)).setCell ⟨s, 3, none⟩ (.int .i64 xc), ?_, ?_, h.2.1, ?_⟩) (fun _ h => InGW.of h.1) ?_
          · have d1 := cells_of h.2.2
            have d2 := frozen_of h.2.2
            clear q1 q2 q3
            go_simp
          · have hs := h.2.1
            exact (((h.1.setCell (p := ⟨s, 0, none⟩) (.inr hs) _).setCell (p := ⟨s, 1, none⟩) (.inr hs) _).setCell (p := ⟨s, 2, none⟩) (.inr hs) _).setCell (p := ⟨s, 3, none⟩) (.inr hs) _
          · exact at_setCell (o := 3) (at_setCell (o := 2) (at_setCell (o := 1) (at_setCell (o := 0) h.2.2)))
          simp only [Act.put, List.setIfInBounds_toArray, List.set_cons_succ, List.set_cons_zero]
          refine stage_quiet 1 (by kernel_rfl) ?_
          simp only [List.take_succ_cons, List.take_zero, List.drop_succ_cons, List.drop_zero]
          repeat (go_big_quiet_step (fail))
          refine wpQuiet_nil ?_
          refine stage_nil fun W2 hW2 => ?_
          obtain ⟨hm2', hs2, hsb⟩ := hW2
          have hm2H := Lib.hid hm2'
          have hsbH := Lib.hid hsb
          clear q1 q2 q3 hm2' hsb
          skip
          by_cases hfl : fl = true
          · exact absurd hfl (by rw [hflH.out]; simp [getB])
          · obtain ⟨hg, hx0, rfl⟩ : getB ([] : List Bor) (o, k) = none ∧ b0 = ((xo, xh), (xm, xc)) ∧ fl = false := by
              have h1 := hxH.out
              have h2 := hflH.out
              cases hg : getB ([] : List Bor) (o, k) with
              | none => rw [hg] at h1 h2; exact ⟨rfl, h1.symm, h2⟩
              | some y => rw [hg] at h2; exact absurd h2 hfl
            unfold b0 at hx0
            simp only [Prod.mk.injEq] at hx0
            obtain ⟨⟨rfl, rfl⟩, rfl, rfl⟩ := hx0
            have hcn := cntOf_none hg
            have hLe := hLL.out 1 (by rw [hcn]; rfl)
            have hpp : Hid ((((o, k), (1, 1)) :: without ([] : List Bor) (o, k)).Perm L') := Lib.hid (by rw [hLe]; exact ((hpH.out.filter _).cons _).trans (put_perm ([] : List Bor) _).symm)
            have hse := fun q => ofO_put_new (b := ((o, k), ((1 : Int), (1 : Int)))) hg q
            rw [← hLe] at hse
            have hseH := Lib.hid hse
            have hol : (ofO ([] : List Bor) o).length ≤ ([] : List Bor).length := List.length_filter_le _ _
            clear hcn hLe hg hse
            have hcs := cells_of hsbH.out
            have hfs := frozen_of hsbH.out
            have hm9 := (((hm2H.out.setCell (p := ⟨s, 0, none⟩) (.inr hs2) (.int .i64 o)).setCell (p := ⟨s, 1, none⟩) (.inr hs2) (.int .i64 k)).setCell (p := ⟨s, 2, none⟩) (.inr hs2) (.int .i64 1)).setCell (p := ⟨s, 3, none⟩) (.inr hs2) (.int .i64 0)
            have hs9 := at_setCell (o := 3) (v := .int .i64 0) (at_setCell (o := 2) (v := .int .i64 1) (at_setCell (o := 1) (v := .int .i64 k) (at_setCell (o := 0) (v := .int .i64 o) hsbH.out)))
            simp only [List.setIfInBounds_toArray, List.set_cons_succ, List.set_cons_zero] at hs9
            have hb9 := hm9.at hbWH.out (by simp)
            have hcb9 := cells_of hb9
            have hk9 := hm9.at hkWH.out (by simp)
            have hM9 := hMWH.out.mod hm9 (by simp)
            have hC9 := hCW.out.mod hm9 (by simp)
            have hlk0 := look_cnt hC9 o
            obtain ⟨n, hn⟩ : ∃ n : Int, n = ((ofO ([] : List Bor) o).length : Nat) := ⟨_, rfl⟩
            obtain ⟨W9, hup0, hC10, hm10, _⟩ := upd_more hC9 (M := L') (o := o) (n := n + 1) hseH.out (by rw [hn])
            rw [← hn] at hlk0
            have hnb : 0 ≤ n ∧ n ≤ 1000000 := ⟨by rw [hn]; exact Int.natCast_nonneg _, by rw [hn]; exact Int.ofNat_le.2 (Nat.le_trans hol hl)⟩
            clear hn
            have hlk9 := fun (_ : True) => hlk0
            have hup := fun (_ : True) => hup0
            clear hlk0 hup0
            have hwl : kb ≤ W.heap.size := hks ▸ hWs.out
            have hWs' : W.heap.size ≤ s := hs2
            have hsc : s ≠ c := Nat.ne_of_gt (Nat.lt_of_lt_of_le hltc (Nat.le_trans hwl hs2))
            have hsb' : b ≠ s := Nat.ne_of_lt (Nat.lt_of_lt_of_le hltb (Nat.le_trans hwl hs2))
            have hsa' : a ≠ s := Nat.ne_of_lt (Nat.lt_of_lt_of_le hlt2 (Nat.le_trans hwl hs2))
            have hsk' : kb ≠ s := Nat.ne_of_lt (Nat.lt_of_lt_of_le hkl hs2)
            have hkc' : kb ≠ c := Nat.ne_of_gt hltc
            have hs10 := hm10.at hs9 (by simpa using hsc)
            have hmF9 := (hmF.out.nil_then hm9).then hm10 (fun x hx => by rw [List.mem_singleton.1 hx]; exact hTc.out)
            have hmF3 := Lib.hid (hmF9.setCell (p := ⟨s, 3, none⟩) (.inr (show w.heap.size ≤ s by have := hmF.out.size; omega)) (.int .i64 1))
            have hm11 := (Mod.refl [s] W9).setCell (p := ⟨s, 3, none⟩) (.inl (by simp)) (.int .i64 1)
            have hsW := at_setCell (o := 3) (v := .int .i64 1) hs10
            simp only [List.setIfInBounds_toArray, List.set_cons_succ, List.set_cons_zero] at hsW
            have hcs10 := cells_of hs10
            have hfs10 := frozen_of hs10
            have hb10 := hm10.at hb9 (by simp; exact hcb.out.symm)
            have hk10 := hm10.at hk9 (by simpa using hkc')
            have hM10 := hM9.mod hm10 (by simp; exact hac.out)
            have hbW := hm11.at hb10 (by simpa using hsb')
            have hkW := hm11.at hk10 (by simpa using hsk')
            have hM3 := Lib.hid (hM10.mod hm11 (by simpa using hsa'))
            have hC3 := Lib.hid (hC10.mod hm11 (by simpa using hsc.symm))
            have hbWx := Lib.hid hbW
            have hkWx := Lib.hid hkW
            have hsWx := Lib.hid hsW
            clear hC10 hm10 hs9 hb9 hk9 hM9 hC9 hm9 hs10 hmF9 hm11 hb10 hk10 hM10 hbW hkW hsW
            go_wp2_with fail
            have hbW := hbWx.out
            have hkW := hkWx.out
            have hsW := hsWx.out
            clear hcs hfs hcs10 hfs10 hcb9 hlk9 hbWx hkWx hsWx hup
            generalize W9.setCell ⟨s, 3, none⟩ (.int .i64 1) = W3 at *
            have q1 := GW.cells (S := [a]) hbW (by simp; exact hab.out.symm)
            have q2 := GW.cells (S := [a]) hkW (by simpa using Nat.ne_of_gt hlt2)
            have q3 := GW.cells (S := [a]) hsW (by simpa using Nat.ne_of_gt (Nat.lt_of_lt_of_le hlt2 (Nat.le_trans hwl hs2)))
            have hbW3 := Lib.hid hbW
            clear hbW hkW hsW
            refine wp_region_stage (fun w' => ∃ x : GW [a] W3, w' = x.1) (fun w' => Mod [] W3 w') (by kernel_rfl) (by kernel_rfl) (fun _ h => InGW.of (h.mono (by simp))) (Mod.refl _ _).drew ?_
            refine stage_quiet 6 (by kernel_rfl) ?_
            simp only [List.take_succ_cons, List.take_zero, List.drop_succ_cons, List.drop_zero]
            repeat (go_big_quiet_step (fail))
            refine wpQuiet_nil ?_
            refine stage_put (fun w' => Mod [a] W3 w' ∧ ∃ bs', MapIs w' a bs' ∧ bs'.Perm (((o, k), (1, 1)) :: without ([] : List Bor) (o, k))) rfl rfl rfl rfl rfl (fun w' h => ?_) (fun _ h => InGW.of h.1) ?_
            · obtain ⟨w4, bs', hr, hM, hmd, hsz, hp⟩ := put_b (hM3.out.mod h (by simp)) hnodH.out ((o, k), (1, 1))
              exact ⟨w4, hr, (h.mono (by simp)).trans hmd, bs', hM, hp⟩
            simp only [Act.put]
            refine stage_nil fun w5 hm5 => ?_
            obtain ⟨hm5, bs', hM5, hp5⟩ := hm5
            have hM5H := Lib.hid hM5
            have hp5H := Lib.hid hp5
            have hm5H := Lib.hid hm5
            clear q1 q2 q3 hM5 hp5 hm5
            go_wp2_with fail
            go_ret
            refine ⟨[b, a, c], rfl, LedAt.of (hm5H.out.at hbW3.out (by simp; exact hab.out.symm)) hab.out hcb.out hac.out hM5H.out (hp5H.out.trans hpp.out) (hC3.out.mod hm5H.out (by simp; exact hac.out.symm)), hmF3.out.then hm5H.out (fun x hx => by rw [List.mem_singleton.1 hx]; exact hTa.out), fun x hx => ?_⟩
            simp at hx
            rcases hx with rfl | rfl | rfl
            · exact .inl (by simp)
            · exact hTa.out
            · exact hTc.out
            
        · exact absurd (hmz rfl) (by decide)
        · go_enter Try.func12, Try.ntmps12
          go_wp2_with fail
          refine hmo.out.mono ?_
          rintro e w1 ⟨rfl, hm1⟩
          have hb1 := hm1.at hbH.out (by simp)
          have hb1H := Lib.hid hb1
          have hba := lt_of hb1
          have hba2 := Nat.lt_succ_of_lt hba
          have hcx := cells_of hb1
          have hfx := frozen_of hb1
          have hm1H := Lib.hid hm1
          clear hm1 hmo hb1
          have hmm1 := fun w => run_makeMap (P := Try.prog) 52 w
          have hmm2 := fun w => run_makeMap (P := Try.prog) 53 w
          go_wp2_with fail
          clear hcx hfx hmm1 hmm2
          have e1 := at_setCell (o := 1) (v := .map (some (w1.heap.size + 1))) (at_setCell (o := 0) (v := .map (some w1.heap.size)) hb1H.out)
          simp only [List.setIfInBounds_toArray, List.set_cons_succ, List.set_cons_zero] at e1
          have e4 := ((hm1H.out.mono (T := [b]) (by simp)).setCell (p := ⟨b, 0, none⟩) (.inl (by simp)) (.map (some w1.heap.size))).setCell (p := ⟨b, 1, none⟩) (.inl (by simp)) (.map (some (w1.heap.size + 1)))
          have hsz : ((w1.setCell ⟨b, 0, none⟩ (.map (some w1.heap.size))).setCell ⟨b, 1, none⟩ (.map (some (w1.heap.size + 1)))).heap.size = w1.heap.size := by simp [World.setCell]
          generalize (w1.setCell ⟨b, 0, none⟩ (.map (some w1.heap.size))).setCell ⟨b, 1, none⟩ (.map (some (w1.heap.size + 1))) = w3 at *
          have e1 := at_alloc_old (o := .map #[] 0) (at_alloc_old (o := .map #[] 0) e1)
          have e2 := at_alloc_old (o := .map #[] 0) (at_alloc w3 (.map #[] 0))
          have e3 := at_alloc (w3.alloc (.map #[] 0)) (.map #[] 0)
          have hsz2 : (w3.alloc (.map #[] 0)).heap.size = w1.heap.size + 1 := by simp [hsz]
          rw [hsz] at e2
          rw [hsz2] at e3
          have e4 := (e4.alloc (.map #[] 0)).alloc (.map #[] 0)
          have hab : Hid (w1.heap.size ≠ b) := Lib.hid (Nat.ne_of_gt hba)
          have hcb : Hid (w1.heap.size + 1 ≠ b) := Lib.hid (Nat.ne_of_gt (Nat.lt_succ_of_lt hba))
          have hac : Hid (w1.heap.size ≠ w1.heap.size + 1) := Lib.hid (Nat.ne_of_lt (Nat.lt_succ_self _))
          have hTa : Hid (w1.heap.size ∈ [b] ∨ w.heap.size ≤ w1.heap.size) := Lib.hid (.inr hm1H.out.size)
          have hTc : Hid (w1.heap.size + 1 ∈ [b] ∨ w.heap.size ≤ w1.heap.size + 1) := Lib.hid (.inr (Nat.le_succ_of_le hm1H.out.size))
          have hk2 : ((w3.alloc (.map #[] 0)).alloc (.map #[] 0)).heap.size = w1.heap.size + 1 + 1 := by simp [hsz]
          clear hba hsz hsz2 hba2
          generalize (w3.alloc (.map #[] 0)).alloc (.map #[] 0) = w2 at *
          clear hm1H hb1H
          generalize hcc : w1.heap.size + 1 = c at *
          generalize w1.heap.size = a at *
          clear hcc
          have hb2 := Lib.hid e1
          have hM2 := Lib.hid (MapIs.empty e2)
          have hC2 := Lib.hid (CntAt.nil.is e3)
          have hm2 := Lib.hid e4
          have hpH := Lib.hid (List.Perm.refl ([] : List Bor))
          have hnodH : Hid ((([] : List Bor)).map (·.1)).Nodup := Lib.hid List.nodup_nil
          rw [← hk2]
          clear e1 e2 e3 e4 hk2
          have hkA := at_alloc w2 (.cells #[.int .i64 o, .int .i64 k] 58)
          have hmA := (Mod.refl [] w2).alloc (.cells #[.int .i64 o, .int .i64 k] 58)
          have hlt2 := (hM2.out.lt)
          have hkl := lt_of hkA
          have hltc := (hC2.out.lt)
          have hltb := lt_of hb2.out
          generalize hks : w2.heap.size = kb at *
          generalize w2.alloc (.cells #[.int .i64 o, .int .i64 k] 58) = W at *
          have hbW := hmA.at hb2.out (by simp)
          have hMW := hM2.out.mod hmA (by simp)
          have hCW := Lib.hid (hC2.out.mod hmA (by simp))
          have hmF := Lib.hid (hm2.out.nil_then hmA)
          have q1 := GW.cells (S := []) hbW (by simp)
          have q2 := GW.cells (S := []) hkA (by simp)
          have q3 : ∀ x : GW [] W, (Instr.lookup 52 (.map (some a)) (.agg #[.int .i64 o, .int .i64 k]) true).run Try.prog x.1 = .ok (.tuple #[.agg #[.int .i64 xo, .int .i64 xh, .int .i64 xm, .int .i64 xc], .bool fl]) x.1 := fun x => by rw [look_b (hMW.mod x.2 (by simp)) (o, k)]; exact congrArg (fun v => Result.ok v x.1) hfv.out
          have hWs := Lib.hid hmA.size
          have hbWH := Lib.hid hbW
          have hMWH := Lib.hid hMW
          have hkWH := Lib.hid hkA
          clear hmA hkA hbW hMW
          refine wp_region_stage (fun w' => ∃ x : GW [] W, w' = x.1) (fun w' => Mod [] W w') (by kernel_rfl) (by kernel_rfl) (fun _ h => InGW.of h) (Mod.refl _ _).drew ?_
          refine stage_quiet 9 (by kernel_rfl) ?_
          simp only [List.take_succ_cons, List.take_zero, List.drop_succ_cons, List.drop_zero]
          repeat (go_big_quiet_step (fail))
          refine wpQuiet_nil ?_
          refine stage_alloc (fun s => .pointer (some ⟨s, 0, none⟩)) (.cells #[.int .i64 0, .int .i64 0, .int .i64 0, .int .i64 0] 25 (0, 0)) (fun s w' => Mod [] W w' ∧ W.heap.size ≤ s ∧ w'.heap[s]? = some (.cells #[.int .i64 0, .int .i64 0, .int .i64 0, .int .i64 0] 25 (0, 0))) (by intro s s' h; simpa using h) rfl rfl (fun w' hw => ?_) (fun w' hw => ⟨hw.alloc _, hw.size, at_alloc _ _⟩) (fun s w' h => InGW.of h.1) (fun s => ?_)
          · kernel_rfl
          simp only [Act.put, List.setIfInBounds_toArray, List.set_cons_succ, List.set_cons_zero]
          refine stage_write (fun w' => Mod [] W w' ∧ W.heap.size ≤ s ∧ w'.heap[s]? = some (.cells #[.int .i64 xo, .int .i64 xh, .int .i64 xm, .int .i64 xc] 25 (0, 0))) rfl rfl (fun w' h => ⟨(((w'.setCell ⟨s, 0, none⟩ (.int .i64 xo)).setCell ⟨s, 1, none⟩ (.int .i64 xh)).setCell ⟨s, 2, none⟩ (.int .i64 xm)).setCell ⟨s, 3, none⟩ (.int .i64 xc), ?_, ?_, h.2.1, ?_⟩) (fun _ h => InGW.of h.1) ?_
          · have d1 := cells_of h.2.2
            have d2 := frozen_of h.2.2
            clear q1 q2 q3
            go_simp
          · have hs := h.2.1
            exact (((h.1.setCell (p := ⟨s, 0, none⟩) (.inr hs) _).setCell (p := ⟨s, 1, none⟩) (.inr hs) _).setCell (p := ⟨s, 2, none⟩) (.inr hs) _).setCell (p := ⟨s, 3, none⟩) (.inr hs) _
          · exact at_setCell (o := 3) (at_setCell (o := 2) (at_setCell (o := 1) (at_setCell (o := 0) h.2.2)))
          simp only [Act.put, List.setIfInBounds_toArray, List.set_cons_succ, List.set_cons_zero]
          refine stage_quiet 1 (by kernel_rfl) ?_
          simp only [List.take_succ_cons, List.take_zero, List.drop_succ_cons, List.drop_zero]
          repeat (go_big_quiet_step (fail))
          refine wpQuiet_nil ?_
          refine stage_nil fun W2 hW2 => ?_
          obtain ⟨hm2', hs2, hsb⟩ := hW2
          have hm2H := Lib.hid hm2'
          have hsbH := Lib.hid hsb
          clear q1 q2 q3 hm2' hsb
          skip
          by_cases hfl : fl = true
          · exact absurd hfl (by rw [hflH.out]; simp [getB])
          · obtain ⟨hg, hx0, rfl⟩ : getB ([] : List Bor) (o, k) = none ∧ b0 = ((xo, xh), (xm, xc)) ∧ fl = false := by
              have h1 := hxH.out
              have h2 := hflH.out
              cases hg : getB ([] : List Bor) (o, k) with
              | none => rw [hg] at h1 h2; exact ⟨rfl, h1.symm, h2⟩
              | some y => rw [hg] at h2; exact absurd h2 hfl
            unfold b0 at hx0
            simp only [Prod.mk.injEq] at hx0
            obtain ⟨⟨rfl, rfl⟩, rfl, rfl⟩ := hx0
            have hcn := cntOf_none hg
            have hLe := hLL.out 1 (by rw [hcn]; rfl)
            have hpp : Hid ((((o, k), (2, 1)) :: without ([] : List Bor) (o, k)).Perm L') := Lib.hid (by rw [hLe]; exact ((hpH.out.filter _).cons _).trans (put_perm ([] : List Bor) _).symm)
            have hse := fun q => ofO_put_new (b := ((o, k), ((2 : Int), (1 : Int)))) hg q
            rw [← hLe] at hse
            have hseH := Lib.hid hse
            have hol : (ofO ([] : List Bor) o).length ≤ ([] : List Bor).length := List.length_filter_le _ _
            clear hcn hLe hg hse
            have hcs := cells_of hsbH.out
            have hfs := frozen_of hsbH.out
            have hm9 := (((hm2H.out.setCell (p := ⟨s, 0, none⟩) (.inr hs2) (.int .i64 o)).setCell (p := ⟨s, 1, none⟩) (.inr hs2) (.int .i64 k)).setCell (p := ⟨s, 2, none⟩) (.inr hs2) (.int .i64 2)).setCell (p := ⟨s, 3, none⟩) (.inr hs2) (.int .i64 0)
            have hs9 := at_setCell (o := 3) (v := .int .i64 0) (at_setCell (o := 2) (v := .int .i64 2) (at_setCell (o := 1) (v := .int .i64 k) (at_setCell (o := 0) (v := .int .i64 o) hsbH.out)))
            simp only [List.setIfInBounds_toArray, List.set_cons_succ, List.set_cons_zero] at hs9
            have hb9 := hm9.at hbWH.out (by simp)
            have hcb9 := cells_of hb9
            have hk9 := hm9.at hkWH.out (by simp)
            have hM9 := hMWH.out.mod hm9 (by simp)
            have hC9 := hCW.out.mod hm9 (by simp)
            have hlk0 := look_cnt hC9 o
            obtain ⟨n, hn⟩ : ∃ n : Int, n = ((ofO ([] : List Bor) o).length : Nat) := ⟨_, rfl⟩
            obtain ⟨W9, hup0, hC10, hm10, _⟩ := upd_more hC9 (M := L') (o := o) (n := n + 1) hseH.out (by rw [hn])
            rw [← hn] at hlk0
            have hnb : 0 ≤ n ∧ n ≤ 1000000 := ⟨by rw [hn]; exact Int.natCast_nonneg _, by rw [hn]; exact Int.ofNat_le.2 (Nat.le_trans hol hl)⟩
            clear hn
            have hlk9 := fun (_ : True) => hlk0
            have hup := fun (_ : True) => hup0
            clear hlk0 hup0
            have hwl : kb ≤ W.heap.size := hks ▸ hWs.out
            have hWs' : W.heap.size ≤ s := hs2
            have hsc : s ≠ c := Nat.ne_of_gt (Nat.lt_of_lt_of_le hltc (Nat.le_trans hwl hs2))
            have hsb' : b ≠ s := Nat.ne_of_lt (Nat.lt_of_lt_of_le hltb (Nat.le_trans hwl hs2))
            have hsa' : a ≠ s := Nat.ne_of_lt (Nat.lt_of_lt_of_le hlt2 (Nat.le_trans hwl hs2))
            have hsk' : kb ≠ s := Nat.ne_of_lt (Nat.lt_of_lt_of_le hkl hs2)
            have hkc' : kb ≠ c := Nat.ne_of_gt hltc
            have hs10 := hm10.at hs9 (by simpa using hsc)
            have hmF9 := (hmF.out.nil_then hm9).then hm10 (fun x hx => by rw [List.mem_singleton.1 hx]; exact hTc.out)
            have hmF3 := Lib.hid (hmF9.setCell (p := ⟨s, 3, none⟩) (.inr (show w.heap.size ≤ s by have := hmF.out.size; omega)) (.int .i64 1))
            have hm11 := (Mod.refl [s] W9).setCell (p := ⟨s, 3, none⟩) (.inl (by simp)) (.int .i64 1)
            have hsW := at_setCell (o := 3) (v := .int .i64 1) hs10
            simp only [List.setIfInBounds_toArray, List.set_cons_succ, List.set_cons_zero] at hsW
            have hcs10 := cells_of hs10
            have hfs10 := frozen_of hs10
            have hb10 := hm10.at hb9 (by simp; exact hcb.out.symm)
            have hk10 := hm10.at hk9 (by simpa using hkc')
            have hM10 := hM9.mod hm10 (by simp; exact hac.out)
            have hbW := hm11.at hb10 (by simpa using hsb')
            have hkW := hm11.at hk10 (by simpa using hsk')
            have hM3 := Lib.hid (hM10.mod hm11 (by simpa using hsa'))
            have hC3 := Lib.hid (hC10.mod hm11 (by simpa using hsc.symm))
            have hbWx := Lib.hid hbW
            have hkWx := Lib.hid hkW
            have hsWx := Lib.hid hsW
            clear hC10 hm10 hs9 hb9 hk9 hM9 hC9 hm9 hs10 hmF9 hm11 hb10 hk10 hM10 hbW hkW hsW
            go_wp2_with fail
            have hbW := hbWx.out
            have hkW := hkWx.out
            have hsW := hsWx.out
            clear hcs hfs hcs10 hfs10 hcb9 hlk9 hbWx hkWx hsWx hup
            generalize W9.setCell ⟨s, 3, none⟩ (.int .i64 1) = W3 at *
            have q1 := GW.cells (S := [a]) hbW (by simp; exact hab.out.symm)
            have q2 := GW.cells (S := [a]) hkW (by simpa using Nat.ne_of_gt hlt2)
            have q3 := GW.cells (S := [a]) hsW (by simpa using Nat.ne_of_gt (Nat.lt_of_lt_of_le hlt2 (Nat.le_trans hwl hs2)))
            have hbW3 := Lib.hid hbW
            clear hbW hkW hsW
            refine wp_region_stage (fun w' => ∃ x : GW [a] W3, w' = x.1) (fun w' => Mod [] W3 w') (by kernel_rfl) (by kernel_rfl) (fun _ h => InGW.of (h.mono (by simp))) (Mod.refl _ _).drew ?_
            refine stage_quiet 6 (by kernel_rfl) ?_
            simp only [List.take_succ_cons, List.take_zero, List.drop_succ_cons, List.drop_zero]
            repeat (go_big_quiet_step (fail))
            refine wpQuiet_nil ?_
            refine stage_put (fun w' => Mod [a] W3 w' ∧ ∃ bs', MapIs w' a bs' ∧ bs'.Perm (((o, k), (2, 1)) :: without ([] : List Bor) (o, k))) rfl rfl rfl rfl rfl (fun w' h => ?_) (fun _ h => InGW.of h.1) ?_
            · obtain ⟨w4, bs', hr, hM, hmd, hsz, hp⟩ := put_b (hM3.out.mod h (by simp)) hnodH.out ((o, k), (2, 1))
              exact ⟨w4, hr, (h.mono (by simp)).trans hmd, bs', hM, hp⟩
            simp only [Act.put]
            refine stage_nil fun w5 hm5 => ?_
            obtain ⟨hm5, bs', hM5, hp5⟩ := hm5
            have hM5H := Lib.hid hM5
            have hp5H := Lib.hid hp5
            have hm5H := Lib.hid hm5
            clear q1 q2 q3 hM5 hp5 hm5
            go_wp2_with fail
            go_ret
            refine ⟨[b, a, c], rfl, LedAt.of (hm5H.out.at hbW3.out (by simp; exact hab.out.symm)) hab.out hcb.out hac.out hM5H.out (hp5H.out.trans hpp.out) (hC3.out.mod hm5H.out (by simp; exact hac.out.symm)), hmF3.out.then hm5H.out (fun x hx => by rw [List.mem_singleton.1 hx]; exact hTa.out), fun x hx => ?_⟩
            simp at hx
            rcases hx with rfl | rfl | rfl
            · exact .inl (by simp)
            · exact hTa.out
            · exact hTc.out
            
        · exact absurd hc (by decide)
      · have hfv : Hid (foundV (getB bs (o, k)) = .tuple #[.agg #[.int .i64 xo, .int .i64 xh, .int .i64 xm, .int .i64 xc], .bool fl]) := Lib.hid (by rw [getB_of_perm hp hsrt.out, hfvL]; rfl)
        have hbH := Lib.hid hb
        have hMH := Lib.hid hM
        have hCH := Lib.hid hC
        have hxH := Lib.hid hx
        have hflH := Lib.hid hfl
        have hpH := Lib.hid hp
        have hnodH := Lib.hid (((hp.map (·.1)).nodup_iff).2 hsrt.out.nodup)
        have hTa : Hid (a ∈ [b, a, c] ∨ w.heap.size ≤ a) := Lib.hid (.inl (by simp))
        have hTc : Hid (c ∈ [b, a, c] ∨ w.heap.size ≤ c) := Lib.hid (.inl (by simp))
        have habH := Lib.hid hab
        have hcbH := Lib.hid hcb
        have hacH := Lib.hid hac
        clear hfvL hb hM hC hx hfl hp hab hcb hac
        have hab := Lib.hid habH.out
        have hcb := Lib.hid hcbH.out
        have hac := Lib.hid hacH.out
        clear habH hcbH hacH
        rcases hm12' with rfl | rfl <;> rcases hc with rfl | ⟨rfl, hc⟩
        · go_enter Try.func12, Try.ntmps12
          go_wp2_with fail
          refine hmo.out.mono ?_
          rintro e w2 ⟨rfl, hm1⟩
          have hb2 := Lib.hid (hm1.at hbH.out (by simp))
          have hM2 := Lib.hid (hMH.out.mod hm1 (by simp))
          have hC2 := Lib.hid (hCH.out.mod hm1 (by simp))
          have hm2 : Hid (Mod [b, a, c] w w2) := Lib.hid (hm1.mono (by simp))
          have hcx := cells_of hb2.out
          clear hm1 hmo
          go_wp2_with fail
          clear hcx
          have hkA := at_alloc w2 (.cells #[.int .i64 o, .int .i64 k] 58)
          have hmA := (Mod.refl [] w2).alloc (.cells #[.int .i64 o, .int .i64 k] 58)
          have hlt2 := (hM2.out.lt)
          have hkl := lt_of hkA
          have hltc := (hC2.out.lt)
          have hltb := lt_of hb2.out
          generalize hks : w2.heap.size = kb at *
          generalize w2.alloc (.cells #[.int .i64 o, .int .i64 k] 58) = W at *
          have hbW := hmA.at hb2.out (by simp)
          have hMW := hM2.out.mod hmA (by simp)
          have hCW := Lib.hid (hC2.out.mod hmA (by simp))
          have hmF := Lib.hid (hm2.out.nil_then hmA)
          have q1 := GW.cells (S := []) hbW (by simp)
          have q2 := GW.cells (S := []) hkA (by simp)
          have q3 : ∀ x : GW [] W, (Instr.lookup 52 (.map (some a)) (.agg #[.int .i64 o, .int .i64 k]) true).run Try.prog x.1 = .ok (.tuple #[.agg #[.int .i64 xo, .int .i64 xh, .int .i64 xm, .int .i64 xc], .bool fl]) x.1 := fun x => by rw [look_b (hMW.mod x.2 (by simp)) (o, k)]; exact congrArg (fun v => Result.ok v x.1) hfv.out
          have hWs := Lib.hid hmA.size
          have hbWH := Lib.hid hbW
          have hMWH := Lib.hid hMW
          have hkWH := Lib.hid hkA
          clear hmA hkA hbW hMW
          refine wp_region_stage (fun w' => ∃ x : GW [] W, w' = x.1) (fun w' => Mod [] W w') (by kernel_rfl) (by kernel_rfl) (fun _ h => InGW.of h) (Mod.refl _ _).drew ?_
          refine stage_quiet 9 (by kernel_rfl) ?_
          simp only [List.take_succ_cons, List.take_zero, List.drop_succ_cons, List.drop_zero]
          repeat (go_big_quiet_step (fail))
          refine wpQuiet_nil ?_
          refine stage_alloc (fun s => .pointer (some ⟨s, 0, none⟩)) (.cells #[.int .i64 0, .int .i64 0, .int .i64 0, .int .i64 0] 25 (0, 0)) (fun s w' => Mod [] W w' ∧ W.heap.size ≤ s ∧ w'.heap[s]? = some (.cells #[.int .i64 0, .int .i64 0, .int .i64 0, .int .i64 0] 25 (0, 0))) (by intro s s' h; simpa using h) rfl rfl (fun w' hw => ?_) (fun w' hw => ⟨hw.alloc _, hw.size, at_alloc _ _⟩) (fun s w' h => InGW.of h.1) (fun s => ?_)
          · kernel_rfl
          simp only [Act.put, List.setIfInBounds_toArray, List.set_cons_succ, List.set_cons_zero]
          refine stage_write (fun w' => Mod [] W w' ∧ W.heap.size ≤ s ∧ w'.heap[s]? = some (.cells #[.int .i64 xo, .int .i64 xh, .int .i64 xm, .int .i64 xc] 25 (0, 0))) rfl rfl (fun w' h => ⟨(((w'.setCell ⟨s, 0, none⟩ (.int .i64 xo)).setCell ⟨s, 1, none⟩ (.int .i64 xh)).setCell ⟨s, 2, none⟩ (.int .i64 xm)).setCell ⟨s, 3, none⟩ (.int .i64 xc), ?_, ?_, h.2.1, ?_⟩) (fun _ h => InGW.of h.1) ?_
          · have d1 := cells_of h.2.2
            have d2 := frozen_of h.2.2
            clear q1 q2 q3
            go_simp
          · have hs := h.2.1
            exact (((h.1.setCell (p := ⟨s, 0, none⟩) (.inr hs) _).setCell (p := ⟨s, 1, none⟩) (.inr hs) _).setCell (p := ⟨s, 2, none⟩) (.inr hs) _).setCell (p := ⟨s, 3, none⟩) (.inr hs) _
          · exact at_setCell (o := 3) (at_setCell (o := 2) (at_setCell (o := 1) (at_setCell (o := 0) h.2.2)))
          simp only [Act.put, List.setIfInBounds_toArray, List.set_cons_succ, List.set_cons_zero]
          refine stage_quiet 1 (by kernel_rfl) ?_
          simp only [List.take_succ_cons, List.take_zero, List.drop_succ_cons, List.drop_zero]
          repeat (go_big_quiet_step (fail))
          refine wpQuiet_nil ?_
          refine stage_nil fun W2 hW2 => ?_
          obtain ⟨hm2', hs2, hsb⟩ := hW2
          have hm2H := Lib.hid hm2'
          have hsbH := Lib.hid hsb
          clear q1 q2 q3 hm2' hsb
          skip
          by_cases hfl : fl = true
          · obtain ⟨hg, rfl⟩ : getB L (o, k) = some ((xo, xh), (xm, xc)) ∧ fl = true := by
              have h1 := hxH.out
              have h2 := hflH.out
              cases hg : getB L (o, k) with
              | none => rw [hg] at h2; subst h2; cases hfl
              | some y => rw [hg] at h1 h2; exact ⟨by rw [h1]; rfl, h2⟩
            have he := hlm.out _ hg
            simp only [Prod.mk.injEq] at he
            obtain ⟨⟨e1, e2⟩, rfl, _⟩ := he
            obtain rfl := e1.symm
            obtain rfl := e2.symm
            have hcn := cntOf_some hg
            rw [hcn] at hcr
            have hLe := hLL.out (xc + 1) (by rw [hcn])
            simp only at hcr
            have hpp : Hid ((((o, k), (1, xc + 1)) :: without bs (o, k)).Perm L') := Lib.hid (by rw [hLe]; exact ((hpH.out.filter _).cons _).trans (put_perm L _).symm)
            have hC3' : CntIs W c L' := hCW.out.same fun q => by rw [hLe]; exact ofO_put_old hsrt.out.nodup (b := ((o, k), (1, xc + 1))) hg q
            have hC3'H := Lib.hid hC3'
            clear hcn hLe hC3' hg
            have hcs := cells_of hsbH.out
            have hfs := frozen_of hsbH.out
            go_wp2_with fail
            have hm3 := hm2H.out.setCell (p := ⟨s, 3, none⟩) (.inr hs2) (.int .i64 (xc + 1))
            have hsW := at_setCell (o := 3) (v := .int .i64 (xc + 1)) hsbH.out
            have hwl : kb ≤ W.heap.size := hks ▸ hWs.out
            simp only [List.setIfInBounds_toArray, List.set_cons_succ, List.set_cons_zero] at hsW
            generalize W2.setCell ⟨s, 3, none⟩ (.int .i64 (xc + 1)) = W3 at *
            have hbW := hm3.at hbWH.out (by simp)
            have hkW := hm3.at hkWH.out (by simp)
            have hM3 := Lib.hid (hMWH.out.mod hm3 (by simp))
            have hC3 := Lib.hid (hC3'H.out.mod hm3 (by simp))
            have hmF3 := Lib.hid (hmF.out.nil_then hm3)
            clear hm3 hcs hfs
            have q1 := GW.cells (S := [a]) hbW (by simp; exact hab.out.symm)
            have q2 := GW.cells (S := [a]) hkW (by simpa using Nat.ne_of_gt hlt2)
            have q3 := GW.cells (S := [a]) hsW (by simpa using Nat.ne_of_gt (Nat.lt_of_lt_of_le hlt2 (Nat.le_trans hwl hs2)))
            have hbW3 := Lib.hid hbW
            clear hbW hkW hsW
            refine wp_region_stage (fun w' => ∃ x : GW [a] W3, w' = x.1) (fun w' => Mod [] W3 w') (by kernel_rfl) (by kernel_rfl) (fun _ h => InGW.of (h.mono (by simp))) (Mod.refl _ _).drew ?_
            refine stage_quiet 6 (by kernel_rfl) ?_
            simp only [List.take_succ_cons, List.take_zero, List.drop_succ_cons, List.drop_zero]
            repeat (go_big_quiet_step (fail))
            refine wpQuiet_nil ?_
            refine stage_put (fun w' => Mod [a] W3 w' ∧ ∃ bs', MapIs w' a bs' ∧ bs'.Perm (((o, k), (1, xc + 1)) :: without bs (o, k))) rfl rfl rfl rfl rfl (fun w' h => ?_) (fun _ h => InGW.of h.1) ?_
            · obtain ⟨w4, bs', hr, hM, hmd, hsz, hp⟩ := put_b (hM3.out.mod h (by simp)) hnodH.out ((o, k), (1, xc + 1))
              exact ⟨w4, hr, (h.mono (by simp)).trans hmd, bs', hM, hp⟩
            simp only [Act.put]
            refine stage_nil fun w5 hm5 => ?_
            obtain ⟨hm5, bs', hM5, hp5⟩ := hm5
            have hM5H := Lib.hid hM5
            have hp5H := Lib.hid hp5
            have hm5H := Lib.hid hm5
            clear q1 q2 q3 hM5 hp5 hm5
            go_wp2_with fail
            go_ret
            refine ⟨[b, a, c], rfl, LedAt.of (hm5H.out.at hbW3.out (by simp; exact hab.out.symm)) hab.out hcb.out hac.out hM5H.out (hp5H.out.trans hpp.out) (hC3.out.mod hm5H.out (by simp; exact hac.out.symm)), hmF3.out.then hm5H.out (fun x hx => by rw [List.mem_singleton.1 hx]; exact hTa.out), fun x hx => ?_⟩
            simp at hx
            rcases hx with rfl | rfl | rfl
            · exact .inl (by simp)
            · exact hTa.out
            · exact hTc.out
          · obtain ⟨hg, hx0, rfl⟩ : getB L (o, k) = none ∧ b0 = ((xo, xh), (xm, xc)) ∧ fl = false := by
              have h1 := hxH.out
              have h2 := hflH.out
              cases hg : getB L (o, k) with
              | none => rw [hg] at h1 h2; exact ⟨rfl, h1.symm, h2⟩
              | some y => rw [hg] at h2; exact absurd h2 hfl
            unfold b0 at hx0
            simp only [Prod.mk.injEq] at hx0
            obtain ⟨⟨rfl, rfl⟩, rfl, rfl⟩ := hx0
            have hcn := cntOf_none hg
            have hLe := hLL.out 1 (by rw [hcn]; rfl)
            have hpp : Hid ((((o, k), (1, 1)) :: without bs (o, k)).Perm L') := Lib.hid (by rw [hLe]; exact ((hpH.out.filter _).cons _).trans (put_perm L _).symm)
            have hse := fun q => ofO_put_new (b := ((o, k), ((1 : Int), (1 : Int)))) hg q
            rw [← hLe] at hse
            have hseH := Lib.hid hse
            have hol : (ofO L o).length ≤ L.length := List.length_filter_le _ _
            clear hcn hLe hg hse
            have hcs := cells_of hsbH.out
            have hfs := frozen_of hsbH.out
            have hm9 := (((hm2H.out.setCell (p := ⟨s, 0, none⟩) (.inr hs2) (.int .i64 o)).setCell (p := ⟨s, 1, none⟩) (.inr hs2) (.int .i64 k)).setCell (p := ⟨s, 2, none⟩) (.inr hs2) (.int .i64 1)).setCell (p := ⟨s, 3, none⟩) (.inr hs2) (.int .i64 0)
            have hs9 := at_setCell (o := 3) (v := .int .i64 0) (at_setCell (o := 2) (v := .int .i64 1) (at_setCell (o := 1) (v := .int .i64 k) (at_setCell (o := 0) (v := .int .i64 o) hsbH.out)))
            simp only [List.setIfInBounds_toArray, List.set_cons_succ, List.set_cons_zero] at hs9
            have hb9 := hm9.at hbWH.out (by simp)
            have hcb9 := cells_of hb9
            have hk9 := hm9.at hkWH.out (by simp)
            have hM9 := hMWH.out.mod hm9 (by simp)
            have hC9 := hCW.out.mod hm9 (by simp)
            have hlk0 := look_cnt hC9 o
            obtain ⟨n, hn⟩ : ∃ n : Int, n = ((ofO L o).length : Nat) := ⟨_, rfl⟩
            obtain ⟨W9, hup0, hC10, hm10, _⟩ := upd_more hC9 (M := L') (o := o) (n := n + 1) hseH.out (by rw [hn])
            rw [← hn] at hlk0
            have hnb : 0 ≤ n ∧ n ≤ 1000000 := ⟨by rw [hn]; exact Int.natCast_nonneg _, by rw [hn]; exact Int.ofNat_le.2 (Nat.le_trans hol hl)⟩
            clear hn
            have hlk9 := fun (_ : True) => hlk0
            have hup := fun (_ : True) => hup0
            clear hlk0 hup0
            have hwl : kb ≤ W.heap.size := hks ▸ hWs.out
            have hWs' : W.heap.size ≤ s := hs2
            have hsc : s ≠ c := Nat.ne_of_gt (Nat.lt_of_lt_of_le hltc (Nat.le_trans hwl hs2))
            have hsb' : b ≠ s := Nat.ne_of_lt (Nat.lt_of_lt_of_le hltb (Nat.le_trans hwl hs2))
            have hsa' : a ≠ s := Nat.ne_of_lt (Nat.lt_of_lt_of_le hlt2 (Nat.le_trans hwl hs2))
            have hsk' : kb ≠ s := Nat.ne_of_lt (Nat.lt_of_lt_of_le hkl hs2)
            have hkc' : kb ≠ c := Nat.ne_of_gt hltc
            have hs10 := hm10.at hs9 (by simpa using hsc)
            have hmF9 := (hmF.out.nil_then hm9).then hm10 (fun x hx => by rw [List.mem_singleton.1 hx]; exact hTc.out)
            have hmF3 := Lib.hid (hmF9.setCell (p := ⟨s, 3, none⟩) (.inr (show w.heap.size ≤ s by have := hmF.out.size; omega)) (.int .i64 1))
            have hm11 := (Mod.refl [s] W9).setCell (p := ⟨s, 3, none⟩) (.inl (by simp)) (.int .i64 1)
            have hsW := at_setCell (o := 3) (v := .int .i64 1) hs10
            simp only [List.setIfInBounds_toArray, List.set_cons_succ, List.set_cons_zero] at hsW
            have hcs10 := cells_of hs10
            have hfs10 := frozen_of hs10
            have hb10 := hm10.at hb9 (by simp; exact hcb.out.symm)
            have hk10 := hm10.at hk9 (by simpa using hkc')
            have hM10 := hM9.mod hm10 (by simp; exact hac.out)
            have hbW := hm11.at hb10 (by simpa using hsb')
            have hkW := hm11.at hk10 (by simpa using hsk')
            have hM3 := Lib.hid (hM10.mod hm11 (by simpa using hsa'))
            have hC3 := Lib.hid (hC10.mod hm11 (by simpa using hsc.symm))
            have hbWx := Lib.hid hbW
            have hkWx := Lib.hid hkW
            have hsWx := Lib.hid hsW
            clear hC10 hm10 hs9 hb9 hk9 hM9 hC9 hm9 hs10 hmF9 hm11 hb10 hk10 hM10 hbW hkW hsW
            go_wp2_with fail
            have hbW := hbWx.out
            have hkW := hkWx.out
            have hsW := hsWx.out
            clear hcs hfs hcs10 hfs10 hcb9 hlk9 hbWx hkWx hsWx hup
            generalize W9.setCell ⟨s, 3, none⟩ (.int .i64 1) = W3 at *
            have q1 := GW.cells (S := [a]) hbW (by simp; exact hab.out.symm)
            have q2 := GW.cells (S := [a]) hkW (by simpa using Nat.ne_of_gt hlt2)
            have q3 := GW.cells (S := [a]) hsW (by simpa using Nat.ne_of_gt (Nat.lt_of_lt_of_le hlt2 (Nat.le_trans hwl hs2)))
            have hbW3 := Lib.hid hbW
            clear hbW hkW hsW
            refine wp_region_stage (fun w' => ∃ x : GW [a] W3, w' = x.1) (fun w' => Mod [] W3 w') (by kernel_rfl) (by kernel_rfl) (fun _ h => InGW.of (h.mono (by simp))) (Mod.refl _ _).drew ?_
            refine stage_quiet 6 (by kernel_rfl) ?_
            simp only [List.take_succ_cons, List.take_zero, List.drop_succ_cons, List.drop_zero]
            repeat (go_big_quiet_step (fail))
            refine wpQuiet_nil ?_
            refine stage_put (fun w' => Mod [a] W3 w' ∧ ∃ bs', MapIs w' a bs' ∧ bs'.Perm (((o, k), (1, 1)) :: without bs (o, k))) rfl rfl rfl rfl rfl (fun w' h => ?_) (fun _ h => InGW.of h.1) ?_
            · obtain ⟨w4, bs', hr, hM, hmd, hsz, hp⟩ := put_b (hM3.out.mod h (by simp)) hnodH.out ((o, k), (1, 1))
              exact ⟨w4, hr, (h.mono (by simp)).trans hmd, bs', hM, hp⟩
            simp only [Act.put]
            refine stage_nil fun w5 hm5 => ?_
            obtain ⟨hm5, bs', hM5, hp5⟩ := hm5
            have hM5H := Lib.hid hM5
            have hp5H := Lib.hid hp5
            have hm5H := Lib.hid hm5
            clear q1 q2 q3 hM5 hp5 hm5
            go_wp2_with fail
            go_ret
            refine ⟨[b, a, c], rfl, LedAt.of (hm5H.out.at hbW3.out (by simp; exact hab.out.symm)) hab.out hcb.out hac.out hM5H.out (hp5H.out.trans hpp.out) (hC3.out.mod hm5H.out (by simp; exact hac.out.symm)), hmF3.out.then hm5H.out (fun x hx => by rw [List.mem_singleton.1 hx]; exact hTa.out), fun x hx => ?_⟩
            simp at hx
            rcases hx with rfl | rfl | rfl
            · exact .inl (by simp)
            · exact hTa.out
            · exact hTc.out
            
        · go_enter Try.func12, Try.ntmps12
          go_wp2_with fail
          refine hmo.out.mono ?_
          rintro e w2 ⟨rfl, hm1⟩
          have hb2 := Lib.hid (hm1.at hbH.out (by simp))
          have hM2 := Lib.hid (hMH.out.mod hm1 (by simp))
          have hC2 := Lib.hid (hCH.out.mod hm1 (by simp))
          have hm2 : Hid (Mod [b, a, c] w w2) := Lib.hid (hm1.mono (by simp))
          have hcx := cells_of hb2.out
          clear hm1 hmo
          go_wp2_with fail
          clear hcx
          have hkA := at_alloc w2 (.cells #[.int .i64 o, .int .i64 k] 58)
          have hmA := (Mod.refl [] w2).alloc (.cells #[.int .i64 o, .int .i64 k] 58)
          have hlt2 := (hM2.out.lt)
          have hkl := lt_of hkA
          have hltc := (hC2.out.lt)
          have hltb := lt_of hb2.out
          generalize hks : w2.heap.size = kb at *
          generalize w2.alloc (.cells #[.int .i64 o, .int .i64 k] 58) = W at *
          have hbW := hmA.at hb2.out (by simp)
          have hMW := hM2.out.mod hmA (by simp)
          have hCW := Lib.hid (hC2.out.mod hmA (by simp))
          have hmF := Lib.hid (hm2.out.nil_then hmA)
          have q1 := GW.cells (S := []) hbW (by simp)
          have q2 := GW.cells (S := []) hkA (by simp)
          have q3 : ∀ x : GW [] W, (Instr.lookup 52 (.map (some a)) (.agg #[.int .i64 o, .int .i64 k]) true).run Try.prog x.1 = .ok (.tuple #[.agg #[.int .i64 xo, .int .i64 xh, .int .i64 xm, .int .i64 xc], .bool fl]) x.1 := fun x => by rw [look_b (hMW.mod x.2 (by simp)) (o, k)]; exact congrArg (fun v => Result.ok v x.1) hfv.out
          have hWs := Lib.hid hmA.size
          have hbWH := Lib.hid hbW
          have hMWH := Lib.hid hMW
          have hkWH := Lib.hid hkA
          clear hmA hkA hbW hMW
          refine wp_region_stage (fun w' => ∃ x : GW [] W, w' = x.1) (fun w' => Mod [] W w') (by kernel_rfl) (by kernel_rfl) (fun _ h => InGW.of h) (Mod.refl _ _).drew ?_
          refine stage_quiet 9 (by kernel_rfl) ?_
          simp only [List.take_succ_cons, List.take_zero, List.drop_succ_cons, List.drop_zero]
          repeat (go_big_quiet_step (fail))
          refine wpQuiet_nil ?_
          refine stage_alloc (fun s => .pointer (some ⟨s, 0, none⟩)) (.cells #[.int .i64 0, .int .i64 0, .int .i64 0, .int .i64 0] 25 (0, 0)) (fun s w' => Mod [] W w' ∧ W.heap.size ≤ s ∧ w'.heap[s]? = some (.cells #[.int .i64 0, .int .i64 0, .int .i64 0, .int .i64 0] 25 (0, 0))) (by intro s s' h; simpa using h) rfl rfl (fun w' hw => ?_) (fun w' hw => ⟨hw.alloc _, hw.size, at_alloc _ _⟩) (fun s w' h => InGW.of h.1) (fun s => ?_)
          · kernel_rfl
          simp only [Act.put, List.setIfInBounds_toArray, List.set_cons_succ, List.set_cons_zero]
          refine stage_write (fun w' => Mod [] W w' ∧ W.heap.size ≤ s ∧ w'.heap[s]? = some (.cells #[.int .i64 xo, .int .i64 xh, .int .i64 xm, .int .i64 xc] 25 (0, 0))) rfl rfl (fun w' h => ⟨(((w'.setCell ⟨s, 0, none⟩ (.int .i64 xo)).setCell ⟨s, 1, none⟩ (.int .i64 xh)).setCell ⟨s, 2, none⟩ (.int .i64 xm)).setCell ⟨s, 3, none⟩ (.int .i64 xc), ?_, ?_, h.2.1, ?_⟩) (fun _ h => InGW.of h.1) ?_
          · have d1 := cells_of h.2.2
            have d2 := frozen_of h.2.2
            clear q1 q2 q3
            go_simp
          · have hs := h.2.1
            exact (((h.1.setCell (p := ⟨s, 0, none⟩) (.inr hs) _).setCell (p := ⟨s, 1, none⟩) (.inr hs) _).setCell (p := ⟨s, 2, none⟩) (.inr hs) _).setCell (p := ⟨s, 3, none⟩) (.inr hs) _
          · exact at_setCell (o := 3) (at_setCell (o := 2) (at_setCell (o := 1) (at_setCell (o := 0) h.2.2)))
          simp only [Act.put, List.setIfInBounds_toArray, List.set_cons_succ, List.set_cons_zero]
          refine stage_quiet 1 (by kernel_rfl) ?_
          simp only [List.take_succ_cons, List.take_zero, List.drop_succ_cons, List.drop_zero]
          repeat (go_big_quiet_step (fail))
          refine wpQuiet_nil ?_
          refine stage_nil fun W2 hW2 => ?_
          obtain ⟨hm2', hs2, hsb⟩ := hW2
          have hm2H := Lib.hid hm2'
          have hsbH := Lib.hid hsb
          clear q1 q2 q3 hm2' hsb
          skip
          by_cases hfl : fl = true
          · obtain ⟨hg, rfl⟩ : getB L (o, k) = some ((xo, xh), (xm, xc)) ∧ fl = true := by
              have h1 := hxH.out
              have h2 := hflH.out
              cases hg : getB L (o, k) with
              | none => rw [hg] at h2; subst h2; cases hfl
              | some y => rw [hg] at h1 h2; exact ⟨by rw [h1]; rfl, h2⟩
            have he := hlm.out _ hg
            simp only [Prod.mk.injEq] at he
            obtain ⟨⟨e1, e2⟩, rfl, _⟩ := he
            obtain rfl := e1.symm
            obtain rfl := e2.symm
            have hcn := cntOf_some hg
            rw [hcn] at hcr
            have hLe := hLL.out (xc + 1) (by rw [hcn])
            simp only at hcr
            have hpp : Hid ((((o, k), (1, xc + 1)) :: without bs (o, k)).Perm L') := Lib.hid (by rw [hLe]; exact ((hpH.out.filter _).cons _).trans (put_perm L _).symm)
            have hC3' : CntIs W c L' := hCW.out.same fun q => by rw [hLe]; exact ofO_put_old hsrt.out.nodup (b := ((o, k), (1, xc + 1))) hg q
            have hC3'H := Lib.hid hC3'
            clear hcn hLe hC3' hg
            have hcs := cells_of hsbH.out
            have hfs := frozen_of hsbH.out
            go_wp2_with fail
            have hm3 := hm2H.out.setCell (p := ⟨s, 3, none⟩) (.inr hs2) (.int .i64 (xc + 1))
            have hsW := at_setCell (o := 3) (v := .int .i64 (xc + 1)) hsbH.out
            have hwl : kb ≤ W.heap.size := hks ▸ hWs.out
            simp only [List.setIfInBounds_toArray, List.set_cons_succ, List.set_cons_zero] at hsW
            generalize W2.setCell ⟨s, 3, none⟩ (.int .i64 (xc + 1)) = W3 at *
            have hbW := hm3.at hbWH.out (by simp)
            have hkW := hm3.at hkWH.out (by simp)
            have hM3 := Lib.hid (hMWH.out.mod hm3 (by simp))
            have hC3 := Lib.hid (hC3'H.out.mod hm3 (by simp))
            have hmF3 := Lib.hid (hmF.out.nil_then hm3)
            clear hm3 hcs hfs
            have q1 := GW.cells (S := [a]) hbW (by simp; exact hab.out.symm)
            have q2 := GW.cells (S := [a]) hkW (by simpa using Nat.ne_of_gt hlt2)
            have q3 := GW.cells (S := [a]) hsW (by simpa using Nat.ne_of_gt (Nat.lt_of_lt_of_le hlt2 (Nat.le_trans hwl hs2)))
            have hbW3 := Lib.hid hbW
            clear hbW hkW hsW
            refine wp_region_stage (fun w' => ∃ x : GW [a] W3, w' = x.1) (fun w' => Mod [] W3 w') (by kernel_rfl) (by kernel_rfl) (fun _ h => InGW.of (h.mono (by simp))) (Mod.refl _ _).drew ?_
            refine stage_quiet 6 (by kernel_rfl) ?_
            simp only [List.take_succ_cons, List.take_zero, List.drop_succ_cons, List.drop_zero]
            repeat (go_big_quiet_step (fail))
            refine wpQuiet_nil ?_
            refine stage_put (fun w' => Mod [a] W3 w' ∧ ∃ bs', MapIs w' a bs' ∧ bs'.Perm (((o, k), (1, xc + 1)) :: without bs (o, k))) rfl rfl rfl rfl rfl (fun w' h => ?_) (fun _ h => InGW.of h.1) ?_
            · obtain ⟨w4, bs', hr, hM, hmd, hsz, hp⟩ := put_b (hM3.out.mod h (by simp)) hnodH.out ((o, k), (1, xc + 1))
              exact ⟨w4, hr, (h.mono (by simp)).trans hmd, bs', hM, hp⟩
            simp only [Act.put]
            refine stage_nil fun w5 hm5 => ?_
            obtain ⟨hm5, bs', hM5, hp5⟩ := hm5
            have hM5H := Lib.hid hM5
            have hp5H := Lib.hid hp5
            have hm5H := Lib.hid hm5
            clear q1 q2 q3 hM5 hp5 hm5
            go_wp2_with fail
            go_ret
            refine ⟨[b, a, c], rfl, LedAt.of (hm5H.out.at hbW3.out (by simp; exact hab.out.symm)) hab.out hcb.out hac.out hM5H.out (hp5H.out.trans hpp.out) (hC3.out.mod hm5H.out (by simp; exact hac.out.symm)), hmF3.out.then hm5H.out (fun x hx => by rw [List.mem_singleton.1 hx]; exact hTa.out), fun x hx => ?_⟩
            simp at hx
            rcases hx with rfl | rfl | rfl
            · exact .inl (by simp)
            · exact hTa.out
            · exact hTc.out
          · obtain ⟨hg, hx0, rfl⟩ : getB L (o, k) = none ∧ b0 = ((xo, xh), (xm, xc)) ∧ fl = false := by
              have h1 := hxH.out
              have h2 := hflH.out
              cases hg : getB L (o, k) with
              | none => rw [hg] at h1 h2; exact ⟨rfl, h1.symm, h2⟩
              | some y => rw [hg] at h2; exact absurd h2 hfl
            unfold b0 at hx0
            simp only [Prod.mk.injEq] at hx0
            obtain ⟨⟨rfl, rfl⟩, rfl, rfl⟩ := hx0
            have hcn := cntOf_none hg
            have hLe := hLL.out 1 (by rw [hcn]; rfl)
            have hpp : Hid ((((o, k), (1, 1)) :: without bs (o, k)).Perm L') := Lib.hid (by rw [hLe]; exact ((hpH.out.filter _).cons _).trans (put_perm L _).symm)
            have hse := fun q => ofO_put_new (b := ((o, k), ((1 : Int), (1 : Int)))) hg q
            rw [← hLe] at hse
            have hseH := Lib.hid hse
            have hol : (ofO L o).length ≤ L.length := List.length_filter_le _ _
            clear hcn hLe hg hse
            have hcs := cells_of hsbH.out
            have hfs := frozen_of hsbH.out
            have hm9 := (((hm2H.out.setCell (p := ⟨s, 0, none⟩) (.inr hs2) (.int .i64 o)).setCell (p := ⟨s, 1, none⟩) (.inr hs2) (.int .i64 k)).setCell (p := ⟨s, 2, none⟩) (.inr hs2) (.int .i64 1)).setCell (p := ⟨s, 3, none⟩) (.inr hs2) (.int .i64 0)
            have hs9 := at_setCell (o := 3) (v := .int .i64 0) (at_setCell (o := 2) (v := .int .i64 1) (at_setCell (o := 1) (v := .int .i64 k) (at_setCell (o := 0) (v := .int .i64 o) hsbH.out)))
            simp only [List.setIfInBounds_toArray, List.set_cons_succ, List.set_cons_zero] at hs9
            have hb9 := hm9.at hbWH.out (by simp)
            have hcb9 := cells_of hb9
            have hk9 := hm9.at hkWH.out (by simp)
            have hM9 := hMWH.out.mod hm9 (by simp)
            have hC9 := hCW.out.mod hm9 (by simp)
            have hlk0 := look_cnt hC9 o
            obtain ⟨n, hn⟩ : ∃ n : Int, n = ((ofO L o).length : Nat) := ⟨_, rfl⟩
            obtain ⟨W9, hup0, hC10, hm10, _⟩ := upd_more hC9 (M := L') (o := o) (n := n + 1) hseH.out (by rw [hn])
            rw [← hn] at hlk0
            have hnb : 0 ≤ n ∧ n ≤ 1000000 := ⟨by rw [hn]; exact Int.natCast_nonneg _, by rw [hn]; exact Int.ofNat_le.2 (Nat.le_trans hol hl)⟩
            clear hn
            have hlk9 := fun (_ : True) => hlk0
            have hup := fun (_ : True) => hup0
            clear hlk0 hup0
            have hwl : kb ≤ W.heap.size := hks ▸ hWs.out
            have hWs' : W.heap.size ≤ s := hs2
            have hsc : s ≠ c := Nat.ne_of_gt (Nat.lt_of_lt_of_le hltc (Nat.le_trans hwl hs2))
            have hsb' : b ≠ s := Nat.ne_of_lt (Nat.lt_of_lt_of_le hltb (Nat.le_trans hwl hs2))
            have hsa' : a ≠ s := Nat.ne_of_lt (Nat.lt_of_lt_of_le hlt2 (Nat.le_trans hwl hs2))
            have hsk' : kb ≠ s := Nat.ne_of_lt (Nat.lt_of_lt_of_le hkl hs2)
            have hkc' : kb ≠ c := Nat.ne_of_gt hltc
            have hs10 := hm10.at hs9 (by simpa using hsc)
            have hmF9 := (hmF.out.nil_then hm9).then hm10 (fun x hx => by rw [List.mem_singleton.1 hx]; exact hTc.out)
            have hmF3 := Lib.hid (hmF9.setCell (p := ⟨s, 3, none⟩) (.inr (show w.heap.size ≤ s by have := hmF.out.size; omega)) (.int .i64 1))
            have hm11 := (Mod.refl [s] W9).setCell (p := ⟨s, 3, none⟩) (.inl (by simp)) (.int .i64 1)
            have hsW := at_setCell (o := 3) (v := .int .i64 1) hs10
            simp only [List.setIfInBounds_toArray, List.set_cons_succ, List.set_cons_zero] at hsW
            have hcs10 := cells_of hs10
            have hfs10 := frozen_of hs10
            have hb10 := hm10.at hb9 (by simp; exact hcb.out.symm)
            have hk10 := hm10.at hk9 (by simpa using hkc')
            have hM10 := hM9.mod hm10 (by simp; exact hac.out)
            have hbW := hm11.at hb10 (by simpa using hsb')
            have hkW := hm11.at hk10 (by simpa using hsk')
            have hM3 := Lib.hid (hM10.mod hm11 (by simpa using hsa'))
            have hC3 := Lib.hid (hC10.mod hm11 (by simpa using hsc.symm))
            have hbWx := Lib.hid hbW
            have hkWx := Lib.hid hkW
            have hsWx := Lib.hid hsW
            clear hC10 hm10 hs9 hb9 hk9 hM9 hC9 hm9 hs10 hmF9 hm11 hb10 hk10 hM10 hbW hkW hsW
            go_wp2_with fail
            have hbW := hbWx.out
            have hkW := hkWx.out
            have hsW := hsWx.out
            clear hcs hfs hcs10 hfs10 hcb9 hlk9 hbWx hkWx hsWx hup
            generalize W9.setCell ⟨s, 3, none⟩ (.int .i64 1) = W3 at *
            have q1 := GW.cells (S := [a]) hbW (by simp; exact hab.out.symm)
            have q2 := GW.cells (S := [a]) hkW (by simpa using Nat.ne_of_gt hlt2)
            have q3 := GW.cells (S := [a]) hsW (by simpa using Nat.ne_of_gt (Nat.lt_of_lt_of_le hlt2 (Nat.le_trans hwl hs2)))
            have hbW3 := Lib.hid hbW
            clear hbW hkW hsW
            refine wp_region_stage (fun w' => ∃ x : GW [a] W3, w' = x.1) (fun w' => Mod [] W3 w') (by kernel_rfl) (by kernel_rfl) (fun _ h => InGW.of (h.mono (by simp))) (Mod.refl _ _).drew ?_
            refine stage_quiet 6 (by kernel_rfl) ?_
            simp only [List.take_succ_cons, List.take_zero, List.drop_succ_cons, List.drop_zero]
            repeat (go_big_quiet_step (fail))
            refine wpQuiet_nil ?_
            refine stage_put (fun w' => Mod [a] W3 w' ∧ ∃ bs', MapIs w' a bs' ∧ bs'.Perm (((o, k), (1, 1)) :: without bs (o, k))) rfl rfl rfl rfl rfl (fun w' h => ?_) (fun _ h => InGW.of h.1) ?_
            · obtain ⟨w4, bs', hr, hM, hmd, hsz, hp⟩ := put_b (hM3.out.mod h (by simp)) hnodH.out ((o, k), (1, 1))
              exact ⟨w4, hr, (h.mono (by simp)).trans hmd, bs', hM, hp⟩
            simp only [Act.put]
            refine stage_nil fun w5 hm5 => ?_
            obtain ⟨hm5, bs', hM5, hp5⟩ := hm5
            have hM5H := Lib.hid hM5
            have hp5H := Lib.hid hp5
            have hm5H := Lib.hid hm5
            clear q1 q2 q3 hM5 hp5 hm5
            go_wp2_with fail
            go_ret
            refine ⟨[b, a, c], rfl, LedAt.of (hm5H.out.at hbW3.out (by simp; exact hab.out.symm)) hab.out hcb.out hac.out hM5H.out (hp5H.out.trans hpp.out) (hC3.out.mod hm5H.out (by simp; exact hac.out.symm)), hmF3.out.then hm5H.out (fun x hx => by rw [List.mem_singleton.1 hx]; exact hTa.out), fun x hx => ?_⟩
            simp at hx
            rcases hx with rfl | rfl | rfl
            · exact .inl (by simp)
            · exact hTa.out
            · exact hTc.out
            
        · go_enter Try.func12, Try.ntmps12
          go_wp2_with fail
          refine hmo.out.mono ?_
          rintro e w2 ⟨rfl, hm1⟩
          have hb2 := Lib.hid (hm1.at hbH.out (by simp))
          have hM2 := Lib.hid (hMH.out.mod hm1 (by simp))
          have hC2 := Lib.hid (hCH.out.mod hm1 (by simp))
          have hm2 : Hid (Mod [b, a, c] w w2) := Lib.hid (hm1.mono (by simp))
          have hcx := cells_of hb2.out
          clear hm1 hmo
          go_wp2_with fail
          clear hcx
          have hkA := at_alloc w2 (.cells #[.int .i64 o, .int .i64 k] 58)
          have hmA := (Mod.refl [] w2).alloc (.cells #[.int .i64 o, .int .i64 k] 58)
          have hlt2 := (hM2.out.lt)
          have hkl := lt_of hkA
          have hltc := (hC2.out.lt)
          have hltb := lt_of hb2.out
          generalize hks : w2.heap.size = kb at *
          generalize w2.alloc (.cells #[.int .i64 o, .int .i64 k] 58) = W at *
          have hbW := hmA.at hb2.out (by simp)
          have hMW := hM2.out.mod hmA (by simp)
          have hCW := Lib.hid (hC2.out.mod hmA (by simp))
          have hmF := Lib.hid (hm2.out.nil_then hmA)
          have q1 := GW.cells (S := []) hbW (by simp)
          have q2 := GW.cells (S := []) hkA (by simp)
          have q3 : ∀ x : GW [] W, (Instr.lookup 52 (.map (some a)) (.agg #[.int .i64 o, .int .i64 k]) true).run Try.prog x.1 = .ok (.tuple #[.agg #[.int .i64 xo, .int .i64 xh, .int .i64 xm, .int .i64 xc], .bool fl]) x.1 := fun x => by rw [look_b (hMW.mod x.2 (by simp)) (o, k)]; exact congrArg (fun v => Result.ok v x.1) hfv.out
          have hWs := Lib.hid hmA.size
          have hbWH := Lib.hid hbW
          have hMWH := Lib.hid hMW
          have hkWH := Lib.hid hkA
          clear hmA hkA hbW hMW
          refine wp_region_stage (fun w' => ∃ x : GW [] W, w' = x.1) (fun w' => Mod [] W w') (by kernel_rfl) (by kernel_rfl) (fun _ h => InGW.of h) (Mod.refl _ _).drew ?_
          refine stage_quiet 9 (by kernel_rfl) ?_
          simp only [List.take_succ_cons, List.take_zero, List.drop_succ_cons, List.drop_zero]
          repeat (go_big_quiet_step (fail))
          refine wpQuiet_nil ?_
          refine stage_alloc (fun s => .pointer (some ⟨s, 0, none⟩)) (.cells #[.int .i64 0, .int .i64 0, .int .i64 0, .int .i64 0] 25 (0, 0)) (fun s w' => Mod [] W w' ∧ W.heap.size ≤ s ∧ w'.heap[s]? = some (.cells #[.int .i64 0, .int .i64 0, .int .i64 0, .int .i64 0] 25 (0, 0))) (by intro s s' h; simpa using h) rfl rfl (fun w' hw => ?_) (fun w' hw => ⟨hw.alloc _, hw.size, at_alloc _ _⟩) (fun s w' h => InGW.of h.1) (fun s => ?_)
          · kernel_rfl
          simp only [Act.put, List.setIfInBounds_toArray, List.set_cons_succ, List.set_cons_zero]
          refine stage_write (fun w' => Mod [] W w' ∧ W.heap.size ≤ s ∧ w'.heap[s]? = some (.cells #[.int .i64 xo, .int .i64 xh, .int .i64 xm, .int .i64 xc] 25 (0, 0))) rfl rfl (fun w' h => ⟨(((w'.setCell ⟨s, 0, none⟩ (.int .i64 xo)).setCell ⟨s, 1, none⟩ (.int .i64 xh)).setCell ⟨s, 2, none⟩ (.int .i64 xm)).setCell ⟨s, 3, none⟩ (.int .i64 xc), ?_, ?_, h.2.1, ?_⟩) (fun _ h => InGW.of h.1) ?_
          · have d1 := cells_of h.2.2
            have d2 := frozen_of h.2.2
            clear q1 q2 q3
            go_simp
          · have hs := h.2.1
            exact (((h.1.setCell (p := ⟨s, 0, none⟩) (.inr hs) _).setCell (p := ⟨s, 1, none⟩) (.inr hs) _).setCell (p := ⟨s, 2, none⟩) (.inr hs) _).setCell (p := ⟨s, 3, none⟩) (.inr hs) _
          · exact at_setCell (o := 3) (at_setCell (o := 2) (at_setCell (o := 1) (at_setCell (o := 0) h.2.2)))
          simp only [Act.put, List.setIfInBounds_toArray, List.set_cons_succ, List.set_cons_zero]
          refine stage_quiet 1 (by kernel_rfl) ?_
          simp only [List.take_succ_cons, List.take_zero, List.drop_succ_cons, List.drop_zero]
          repeat (go_big_quiet_step (fail))
          refine wpQuiet_nil ?_
          refine stage_nil fun W2 hW2 => ?_
          obtain ⟨hm2', hs2, hsb⟩ := hW2
          have hm2H := Lib.hid hm2'
          have hsbH := Lib.hid hsb
          clear q1 q2 q3 hm2' hsb
          skip
          by_cases hfl : fl = true
          · obtain ⟨hg, rfl⟩ : getB L (o, k) = some ((xo, xh), (xm, xc)) ∧ fl = true := by
              have h1 := hxH.out
              have h2 := hflH.out
              cases hg : getB L (o, k) with
              | none => rw [hg] at h2; subst h2; cases hfl
              | some y => rw [hg] at h1 h2; exact ⟨by rw [h1]; rfl, h2⟩
            have he := hlm.out _ hg
            simp only [Prod.mk.injEq] at he
            obtain ⟨⟨e1, e2⟩, rfl, _⟩ := he
            obtain rfl := e1.symm
            obtain rfl := e2.symm
            have hcn := cntOf_some hg
            rw [hcn] at hcr
            have hLe := hLL.out (xc + 1) (by rw [hcn])
            simp only at hcr
            have hpp : Hid ((((o, k), (2, xc + 1)) :: without bs (o, k)).Perm L') := Lib.hid (by rw [hLe]; exact ((hpH.out.filter _).cons _).trans (put_perm L _).symm)
            have hC3' : CntIs W c L' := hCW.out.same fun q => by rw [hLe]; exact ofO_put_old hsrt.out.nodup (b := ((o, k), (2, xc + 1))) hg q
            have hC3'H := Lib.hid hC3'
            clear hcn hLe hC3' hg
            have hcs := cells_of hsbH.out
            have hfs := frozen_of hsbH.out
            go_wp2_with fail
            have hm3 := hm2H.out.setCell (p := ⟨s, 3, none⟩) (.inr hs2) (.int .i64 (xc + 1))
            have hsW := at_setCell (o := 3) (v := .int .i64 (xc + 1)) hsbH.out
            have hwl : kb ≤ W.heap.size := hks ▸ hWs.out
            simp only [List.setIfInBounds_toArray, List.set_cons_succ, List.set_cons_zero] at hsW
            generalize W2.setCell ⟨s, 3, none⟩ (.int .i64 (xc + 1)) = W3 at *
            have hbW := hm3.at hbWH.out (by simp)
            have hkW := hm3.at hkWH.out (by simp)
            have hM3 := Lib.hid (hMWH.out.mod hm3 (by simp))
            have hC3 := Lib.hid (hC3'H.out.mod hm3 (by simp))
            have hmF3 := Lib.hid (hmF.out.nil_then hm3)
            clear hm3 hcs hfs
            have q1 := GW.cells (S := [a]) hbW (by simp; exact hab.out.symm)
            have q2 := GW.cells (S := [a]) hkW (by simpa using Nat.ne_of_gt hlt2)
            have q3 := GW.cells (S := [a]) hsW (by simpa using Nat.ne_of_gt (Nat.lt_of_lt_of_le hlt2 (Nat.le_trans hwl hs2)))
            have hbW3 := Lib.hid hbW
            clear hbW hkW hsW
            refine wp_region_stage (fun w' => ∃ x : GW [a] W3, w' = x.1) (fun w' => Mod [] W3 w') (by kernel_rfl) (by kernel_rfl) (fun _ h => InGW.of (h.mono (by simp))) (Mod.refl _ _).drew ?_
            refine stage_quiet 6 (by kernel_rfl) ?_
            simp only [List.take_succ_cons, List.take_zero, List.drop_succ_cons, List.drop_zero]
            repeat (go_big_quiet_step (fail))
            refine wpQuiet_nil ?_
            refine stage_put (fun w' => Mod [a] W3 w' ∧ ∃ bs', MapIs w' a bs' ∧ bs'.Perm (((o, k), (2, xc + 1)) :: without bs (o, k))) rfl rfl rfl rfl rfl (fun w' h => ?_) (fun _ h => InGW.of h.1) ?_
            · obtain ⟨w4, bs', hr, hM, hmd, hsz, hp⟩ := put_b (hM3.out.mod h (by simp)) hnodH.out ((o, k), (2, xc + 1))
              exact ⟨w4, hr, (h.mono (by simp)).trans hmd, bs', hM, hp⟩
            simp only [Act.put]
            refine stage_nil fun w5 hm5 => ?_
            obtain ⟨hm5, bs', hM5, hp5⟩ := hm5
            have hM5H := Lib.hid hM5
            have hp5H := Lib.hid hp5
            have hm5H := Lib.hid hm5
            clear q1 q2 q3 hM5 hp5 hm5
            go_wp2_with fail
            go_ret
            refine ⟨[b, a, c], rfl, LedAt.of (hm5H.out.at hbW3.out (by simp; exact hab.out.symm)) hab.out hcb.out hac.out hM5H.out (hp5H.out.trans hpp.out) (hC3.out.mod hm5H.out (by simp; exact hac.out.symm)), hmF3.out.then hm5H.out (fun x hx => by rw [List.mem_singleton.1 hx]; exact hTa.out), fun x hx => ?_⟩
            simp at hx
            rcases hx with rfl | rfl | rfl
            · exact .inl (by simp)
            · exact hTa.out
            · exact hTc.out
          · obtain ⟨hg, hx0, rfl⟩ : getB L (o, k) = none ∧ b0 = ((xo, xh), (xm, xc)) ∧ fl = false := by
              have h1 := hxH.out
              have h2 := hflH.out
              cases hg : getB L (o, k) with
              | none => rw [hg] at h1 h2; exact ⟨rfl, h1.symm, h2⟩
              | some y => rw [hg] at h2; exact absurd h2 hfl
            unfold b0 at hx0
            simp only [Prod.mk.injEq] at hx0
            obtain ⟨⟨rfl, rfl⟩, rfl, rfl⟩ := hx0
            have hcn := cntOf_none hg
            have hLe := hLL.out 1 (by rw [hcn]; rfl)
            have hpp : Hid ((((o, k), (2, 1)) :: without bs (o, k)).Perm L') := Lib.hid (by rw [hLe]; exact ((hpH.out.filter _).cons _).trans (put_perm L _).symm)
            have hse := fun q => ofO_put_new (b := ((o, k), ((2 : Int), (1 : Int)))) hg q
            rw [← hLe] at hse
            have hseH := Lib.hid hse
            have hol : (ofO L o).length ≤ L.length := List.length_filter_le _ _
            clear hcn hLe hg hse
            have hcs := cells_of hsbH.out
            have hfs := frozen_of hsbH.out
            have hm9 := (((hm2H.out.setCell (p := ⟨s, 0, none⟩) (.inr hs2) (.int .i64 o)).setCell (p := ⟨s, 1, none⟩) (.inr hs2) (.int .i64 k)).setCell (p := ⟨s, 2, none⟩) (.inr hs2) (.int .i64 2)).setCell (p := ⟨s, 3, none⟩) (.inr hs2) (.int .i64 0)
            have hs9 := at_setCell (o := 3) (v := .int .i64 0) (at_setCell (o := 2) (v := .int .i64 2) (at_setCell (o := 1) (v := .int .i64 k) (at_setCell (o := 0) (v := .int .i64 o) hsbH.out)))
            simp only [List.setIfInBounds_toArray, List.set_cons_succ, List.set_cons_zero] at hs9
            have hb9 := hm9.at hbWH.out (by simp)
            have hcb9 := cells_of hb9
            have hk9 := hm9.at hkWH.out (by simp)
            have hM9 := hMWH.out.mod hm9 (by simp)
            have hC9 := hCW.out.mod hm9 (by simp)
            have hlk0 := look_cnt hC9 o
            obtain ⟨n, hn⟩ : ∃ n : Int, n = ((ofO L o).length : Nat) := ⟨_, rfl⟩
            obtain ⟨W9, hup0, hC10, hm10, _⟩ := upd_more hC9 (M := L') (o := o) (n := n + 1) hseH.out (by rw [hn])
            rw [← hn] at hlk0
            have hnb : 0 ≤ n ∧ n ≤ 1000000 := ⟨by rw [hn]; exact Int.natCast_nonneg _, by rw [hn]; exact Int.ofNat_le.2 (Nat.le_trans hol hl)⟩
            clear hn
            have hlk9 := fun (_ : True) => hlk0
            have hup := fun (_ : True) => hup0
            clear hlk0 hup0
            have hwl : kb ≤ W.heap.size := hks ▸ hWs.out
            have hWs' : W.heap.size ≤ s := hs2
            have hsc : s ≠ c := Nat.ne_of_gt (Nat.lt_of_lt_of_le hltc (Nat.le_trans hwl hs2))
            have hsb' : b ≠ s := Nat.ne_of_lt (Nat.lt_of_lt_of_le hltb (Nat.le_trans hwl hs2))
            have hsa' : a ≠ s := Nat.ne_of_lt (Nat.lt_of_lt_of_le hlt2 (Nat.le_trans hwl hs2))
            have hsk' : kb ≠ s := Nat.ne_of_lt (Nat.lt_of_lt_of_le hkl hs2)
            have hkc' : kb ≠ c := Nat.ne_of_gt hltc
            have hs10 := hm10.at hs9 (by simpa using hsc)
            have hmF9 := (hmF.out.nil_then hm9).then hm10 (fun x hx => by rw [List.mem_singleton.1 hx]; exact hTc.out)
            have hmF3 := Lib.hid (hmF9.setCell (p := ⟨s, 3, none⟩) (.inr (show w.heap.size ≤ s by have := hmF.out.size; omega)) (.int .i64 1))
            have hm11 := (Mod.refl [s] W9).setCell (p := ⟨s, 3, none⟩) (.inl (by simp)) (.int .i64 1)
            have hsW := at_setCell (o := 3) (v := .int .i64 1) hs10
            simp only [List.setIfInBounds_toArray, List.set_cons_succ, List.set_cons_zero] at hsW
            have hcs10 := cells_of hs10
            have hfs10 := frozen_of hs10
            have hb10 := hm10.at hb9 (by simp; exact hcb.out.symm)
            have hk10 := hm10.at hk9 (by simpa using hkc')
            have hM10 := hM9.mod hm10 (by simp; exact hac.out)
            have hbW := hm11.at hb10 (by simpa using hsb')
            have hkW := hm11.at hk10 (by simpa using hsk')
            have hM3 := Lib.hid (hM10.mod hm11 (by simpa using hsa'))
            have hC3 := Lib.hid (hC10.mod hm11 (by simpa using hsc.symm))
            have hbWx := Lib.hid hbW
            have hkWx := Lib.hid hkW
            have hsWx := Lib.hid hsW
            clear hC10 hm10 hs9 hb9 hk9 hM9 hC9 hm9 hs10 hmF9 hm11 hb10 hk10 hM10 hbW hkW hsW
            go_wp2_with fail
            have hbW := hbWx.out
            have hkW := hkWx.out
            have hsW := hsWx.out
            clear hcs hfs hcs10 hfs10 hcb9 hlk9 hbWx hkWx hsWx hup
            generalize W9.setCell ⟨s, 3, none⟩ (.int .i64 1) = W3 at *
            have q1 := GW.cells (S := [a]) hbW (by simp; exact hab.out.symm)
            have q2 := GW.cells (S := [a]) hkW (by simpa using Nat.ne_of_gt hlt2)
            have q3 := GW.cells (S := [a]) hsW (by simpa using Nat.ne_of_gt (Nat.lt_of_lt_of_le hlt2 (Nat.le_trans hwl hs2)))
            have hbW3 := Lib.hid hbW
            clear hbW hkW hsW
            refine wp_region_stage (fun w' => ∃ x : GW [a] W3, w' = x.1) (fun w' => Mod [] W3 w') (by kernel_rfl) (by kernel_rfl) (fun _ h => InGW.of (h.mono (by simp))) (Mod.refl _ _).drew ?_
            refine stage_quiet 6 (by kernel_rfl) ?_
            simp only [List.take_succ_cons, List.take_zero, List.drop_succ_cons, List.drop_zero]
            repeat (go_big_quiet_step (fail))
            refine wpQuiet_nil ?_
            refine stage_put (fun w' => Mod [a] W3 w' ∧ ∃ bs', MapIs w' a bs' ∧ bs'.Perm (((o, k), (2, 1)) :: without bs (o, k))) rfl rfl rfl rfl rfl (fun w' h => ?_) (fun _ h => InGW.of h.1) ?_
            · obtain ⟨w4, bs', hr, hM, hmd, hsz, hp⟩ := put_b (hM3.out.mod h (by simp)) hnodH.out ((o, k), (2, 1))
              exact ⟨w4, hr, (h.mono (by simp)).trans hmd, bs', hM, hp⟩
            simp only [Act.put]
            refine stage_nil fun w5 hm5 => ?_
            obtain ⟨hm5, bs', hM5, hp5⟩ := hm5
            have hM5H := Lib.hid hM5
            have hp5H := Lib.hid hp5
            have hm5H := Lib.hid hm5
            clear q1 q2 q3 hM5 hp5 hm5
            go_wp2_with fail
            go_ret
            refine ⟨[b, a, c], rfl, LedAt.of (hm5H.out.at hbW3.out (by simp; exact hab.out.symm)) hab.out hcb.out hac.out hM5H.out (hp5H.out.trans hpp.out) (hC3.out.mod hm5H.out (by simp; exact hac.out.symm)), hmF3.out.then hm5H.out (fun x hx => by rw [List.mem_singleton.1 hx]; exact hTa.out), fun x hx => ?_⟩
            simp at hx
            rcases hx with rfl | rfl | rfl
            · exact .inl (by simp)
            · exact hTa.out
            · exact hTc.out
            
        · exact absurd hc (by decide)
    · have hm12' : m = 1 ∨ m = 2 := by omega
      have hE2 : lendE L o m = 14 := by unfold lendE at hE ⊢; rw [if_neg hm12] at hE ⊢; split at hE <;> simp_all
      have hL : lendL L o k m = L := by unfold lendL; rw [if_neg hE]
      have hc : modeO L o = 2 ∨ (modeO L o ≠ 0 ∧ m = 2) := by
        unfold lendE at hE; rw [if_neg hm12] at hE
        split at hE
        · assumption
        · exact absurd rfl hE
      rw [hE2, hL]
      have hr := modeO_range hI o
      generalize modeO L o = mo at *
      have hhH := Lib.hid h
      clear h hI hE hL hE2 hm12
      rcases hm12' with rfl | rfl <;> rcases hr with rfl | rfl | rfl <;> simp at hc
      all_goals
        go_enter Try.func12, Try.ntmps12
        go_wp2_with fail
        refine hmo.out.mono ?_
        rintro e w1 ⟨rfl, hm1⟩
        have hm1 := Lib.hid hm1
        go_wp2_with fail
        go_ret
        exact Takes.same hhH.out hm1.out
end Go.Proofs.Ytappkiiihnaegaa
