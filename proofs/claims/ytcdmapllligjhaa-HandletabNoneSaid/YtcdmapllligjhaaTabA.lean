/- The handle table: the definition's list of live entries; Full, Retired, Pool. -/
import Derived.Test.YtcdmapllligjhaaTabS
namespace Go.Proofs.Ytcdmapllligjhaa
open Go Go.RowKit Go.Stg

theorem cellsE (w : World) (l : List Value) (T : TypeId) (cs : Array Value) (hc : cs.toList = l) : ∀ j u, l[j]? = some u → (w.alloc (.cells cs T)).cell? ((⟨w.heap.size, 0, none⟩ : Addr).add j) = some u := by
  intro j u hu
  rw [add_at, Nat.zero_add, cells_of (at_alloc w (.cells cs T))]
  rw [← hc, Array.getElem?_toList] at hu
  exact hu
/-- The entries of the live slots below k. -/
def liveL (x : TS) (k : Nat) : List Ent := (List.range k).filterMap fun i => if (slotN x.g.S i).2 then some (entN x.E i) else none
theorem liveL_dead {x : TS} {k : Nat} (h : (slotN x.g.S k).2 = false) : liveL x (k + 1) = liveL x k := by simp [liveL, List.range_succ, h]
theorem liveL_live {x : TS} {k : Nat} (h : (slotN x.g.S k).2 = true) : liveL x (k + 1) = liveL x k ++ [entN x.E k] := by simp [liveL, List.range_succ, h]
theorem liveL_len (x : TS) (k : Nat) : (liveL x k).length ≤ k := by
  have := List.length_filterMap_le (fun i => if (slotN x.g.S i).2 then some (entN x.E i) else none) (List.range k)
  simpa [liveL] using this
section
variable {w : World} {n : Nat} {first : Int} {x : TS} (hI : TInv n first x) (hn : n ≤ 4096) {tb b : Nat} {ev : Value} {f : List Nat}
include hI hn
set_option maxHeartbeats 1000000 in
theorem rall_ok {gv lv : Value} (hc : (rtabC tb ev b gv lv first x).on w f) :
    Calls Try.prog 41 #[.pointer (some ⟨tb, 0, none⟩)] w fun e w' => ∃ v, e = .returned v ∧ w'.ownsRow 0 39 5 v (liveL x n).length (flat ent (liveL x n)) ∧ Mod [] w w' := by
  obtain ⟨E, hA, hH⟩ := hc
  have hS := Scene.start hH
  obtain ⟨fv, hR⟩ := sc_rgen 2 hS rfl
  have hrow := hS.row 1 rfl
  have hblk := hS.block 0 rfl
  have hEl : E.length = n := by rw [hA.1]; exact hI.len
  have hSl := hI.g.len
  have hRH := Lib.hid hR
  have hrowH := Lib.hid hrow
  have hblkH := Lib.hid hblk
  have hAH := Lib.hid hA.2
  obtain ⟨i5, hi5, hz0, hz1, hz2⟩ := info_parts info_entry
  have hln := fun ty w' => row_len (ty := ty) Try.underlying29 hrow w'
  rw [hEl] at hln
  clear hH hS hR hrow hblk hI hA
  go_enter Try.func41, Try.ntmps41
  go_wp2_with fail
  go_loopw [4, 3] (fun i ov wr => ∃ k : Nat, k ≤ n ∧ i = .int .i64 k ∧ Mod [] w wr ∧ wr.ownsRow 0 39 5 ov (liveL x k).length (flat ent (liveL x k)) ∧ ∀ y, ov.ownBlock = some y → w.heap.size ≤ y) (fun i _ _ => n - (intOf i).toNat)
  case atStart => exact ⟨0, by omega, rfl, Mod.refl _ _, World.ownsRow_nil _ _ _ _, by simp [Value.ownBlock]⟩
  case round =>
    obtain ⟨k, hk, rfl, hm, ho, hfo⟩ := hrel
    have hcb := cells_of (hm.at hblkH.out (by simp))
    have hR1 := hRH.out.mod hm (by simp)
    have hcr := cells_of hR1.blk
    have hoH := Lib.hid ho
    have hfoH := Lib.hid hfo
    have hmH := Lib.hid hm
    have hlk := liveL_len x k
    by_cases hlt : k < n
    · have hrow1 := row_mod hrowH.out hm (by simp)
      obtain ⟨g1, c1, rfl, _, _⟩ := row_pos hrow1 (by omega)
      obtain ⟨g2, c2, rfl, _, _⟩ := row_pos hR1.live (by omega)
      obtain ⟨cl, _, _⟩ := hR1.liveAt rfl (j := k) (by omega)
      have r0 := row_cell ent_length hrow1 (show k < E.length by omega) rfl (k := 0) (by omega)
      have r1 := row_cell ent_length hrow1 (show k < E.length by omega) rfl (k := 1) (by omega)
      have r2 := row_cell ent_length hrow1 (show k < E.length by omega) rfl (k := 2) (by omega)
      have r3 := row_cell ent_length hrow1 (show k < E.length by omega) rfl (k := 3) (by omega)
      have r4 := row_cell ent_length hrow1 (show k < E.length by omega) rfl (k := 4) (by omega)
      cases hl : (slotN x.g.S k).2 with
      | false =>
        rw [hl] at cl
        have hoN := hoH.out
        rw [← liveL_dead hl] at hoN
        have hoN := Lib.hid hoN
        clear hl r0 r1 r2 r3 r4 hrow1 hR1 hm ho hfo
        go_wp2_with fail
        go_roundw
        case rel => exact ⟨k + 1, by omega, by go_num, hmH.out, hoN.out, hfoH.out⟩
        case measure => simp [intOf]; omega
      | true =>
        rw [hl] at cl
        have hE := hAH.out k hl
        rw [entN_at (by omega)] at hE
        rw [hE] at r0 r1 r2 r3 r4
        have hLs := liveL_live hl
        obtain ⟨eh, eo, et, ef, el, hen⟩ : ∃ eh eo et ef el, entN x.E k = ⟨eh, eo, et, ef, el⟩ := ⟨_, _, _, _, _, rfl⟩
        rw [hen] at r0 r1 r2 r3 r4 hLs
        simp only [ent, List.getElem?_cons_zero, List.getElem?_cons_succ, Nat.add_zero] at r0 r1 r2 r3 r4
        have hLsH := Lib.hid hLs
        have hb1 : (liveL x k).length + 1 ≤ maxLen := by unfold maxLen; omega
        have hb2 : ((liveL x k).length + 1) * 40 ≤ 140737488355328 := by omega
        have hwr := Lib.hid hm.size
        clear hl hrow1 hR1 hm ho hfo hE hen hLs
        go_wp2_with (at_builtin; refine wpList_append_row _ rfl _ _ 29 rfl 39 i5 (entV ent0) 5 40 Try.underlying29 hi5 hz0 hz1 hz2 rfl (by decide) u3 (liveL x k).length _ rfl (hoH.out.alloc _) ⟨wr.heap.size, 0, none⟩ 1 1 (ent ⟨eh, eo, et, ef, el⟩) rfl rfl (cellsE _ _ _ _ rfl) (by simp [ent, Value.oneCell']) hb1 hb2 ?_; intro ov2 w5 hown hgrow hfr; obtain ⟨g5, c5, rfl, _, _⟩ := row_pos hown (by omega); have hownH := Lib.hid hown; have hgrowH := Lib.hid hgrow; have hfrH := Lib.hid hfr; clear hown hgrow hfr)
        go_roundw
        case rel =>
          refine ⟨k + 1, by omega, by go_num, (hmH.out.alloc _).grown hgrowH.out (fun y hy => .inr (hfoH.out y hy)), ?_, fun y hy => ?_⟩
          · rw [hLsH.out, flat_append, flat_one, List.length_append]
            exact hownH.out
          · have hw := hwr.out
            rcases hfrH.out y hy with h | h
            · exact hfoH.out y h
            · simp at h; omega
        case measure => simp [intOf]; omega
    · obtain rfl : k = n := by omega
      clear hm ho hfo
      obtain ⟨oa, ol, oc, rfl⟩ : ∃ a l c, u3 = .slice a l c := by
        rcases row_cases hoH.out with ⟨rfl, _⟩ | ⟨_, _, rfl, _⟩ <;> exact ⟨_, _, _, rfl⟩
      go_wp2_with fail
      go_ret
      exact ⟨_, rfl, hoH.out, hmH.out⟩
end
section
variable {F : List Nat} {W w : World} {cs : List Comp} {n : Nat} {first : Int} {x : TS} (i : Nat) (h : Scene F W cs w) {tb b pb : Nat} {ev sl : Value} (hi : cs[i]? = some (tabC tb ev b pb sl first x))
include h hi
theorem sc_tretired : Calls Try.prog 26 #[.pointer (some ⟨tb, 0, none⟩)] w fun e w' => e = .returned (.int .i64 x.g.ret) ∧ Mod [] w w' := by
  obtain ⟨f, ⟨E, hA, hH⟩, _⟩ := h.part i hi
  have hS := Scene.start hH
  obtain ⟨psv, hG⟩ := sc_gen 2 hS rfl
  have hT := Lib.hid (tlive_ok (hS.block 0 rfl))
  have hGH := Lib.hid hG
  clear hA hH hS hG h hi
  go_enter Try.func26, Try.ntmps26
  go_wp2_with fail
  refine hT.out.mono ?_
  rintro e w1 ⟨rfl, hm1⟩
  go_wp2_with fail
  refine (retired_ok (hGH.out.mod hm1 (by simp))).mono ?_
  rintro e w2 ⟨rfl, hm2⟩
  go_wp2_with fail
  go_ret
  exact ⟨rfl, hm1.nil_then hm2⟩
theorem sc_tpool : Calls Try.prog 27 #[.pointer (some ⟨tb, 0, none⟩)] w fun e w' => ∃ v, e = .returned v ∧ Mod [] w w' ∧ IntsAt w' v x.g.F := by
  obtain ⟨f, ⟨E, hA, hH⟩, _⟩ := h.part i hi
  have hS := Scene.start hH
  obtain ⟨psv, hG⟩ := sc_gen 2 hS rfl
  have hT := Lib.hid (tlive_ok (hS.block 0 rfl))
  have hGH := Lib.hid hG
  clear hA hH hS hG h hi
  go_enter Try.func27, Try.ntmps27
  go_wp2_with fail
  refine hT.out.mono ?_
  rintro e w1 ⟨rfl, hm1⟩
  go_wp2_with fail
  refine (pool_ok (hGH.out.mod hm1 (by simp))).mono ?_
  rintro e w2 ⟨v, rfl, hm2, hi2⟩
  obtain ⟨va, vl, vc, rfl⟩ : ∃ a l c, v = .slice a l c := by
    rcases hi2 with ⟨rfl, _⟩ | ⟨_, _, _, rfl, _⟩ <;> exact ⟨_, _, _, rfl⟩
  go_wp2_with fail
  go_ret
  exact ⟨_, rfl, hm1.nil_then hm2, hi2⟩
theorem sc_tfull : Calls Try.prog 25 #[.pointer (some ⟨tb, 0, none⟩)] w fun e w' => e = .returned (.bool (decide (x.g.F.length = 0))) ∧ Mod [] w w' := by
  have hP := Lib.hid (sc_tpool i h hi)
  clear h hi
  obtain ⟨q, hq⟩ : ∃ q, decide (x.g.F.length = 0) = q := ⟨_, rfl⟩
  rw [hq]
  have hqH := Lib.hid hq
  clear hq
  go_enter Try.func25, Try.ntmps25
  go_wp2_with fail
  refine hP.out.mono ?_
  rintro e w1 ⟨v, rfl, hm1, hi1⟩
  have hln := fun ty w => hi1.len ty w
  clear hi1
  by_cases hz : x.g.F.length = 0
  · have hq := hqH.out
    rw [hz] at hln hq
    simp only [decide_true] at hq
    subst hq
    go_wp2_with fail
    go_ret
    exact ⟨rfl, hm1⟩
  · have hz2 : ((x.g.F.length : Int) == 0) = false := by simp only [beq_eq_false_iff_ne]; omega
    have hq := hqH.out
    simp only [hz, decide_false] at hq
    subst hq
    clear hz
    go_wp2_with fail
    go_ret
    exact ⟨rfl, hm1⟩
end
end Go.Proofs.Ytcdmapllligjhaa
