/- QuotaRaw returns true whatever its arguments: the walk. -/
import Derived.Test.YtbjjeacdgbppoaaQuotaExact
namespace Go.Proofs.Ytbjjeacdgbppoaa
open Go Go.RowKit Go.Stg

def qcells : List Q → List Value
  | [] => []
  | q :: l => .int .i64 q.b :: .int .i64 q.o :: .int .i64 q.r :: qcells l
theorem qcells_at : ∀ (l : List Q) (i : Nat) (h : i < l.length),
    (qcells l)[i * 3]? = some (.int .i64 l[i].b) ∧ (qcells l)[i * 3 + 1]? = some (.int .i64 l[i].o) ∧ (qcells l)[i * 3 + 2]? = some (.int .i64 l[i].r)
  | q :: l, 0, _ => by simp [qcells]
  | q :: l, i + 1, h => by
    have := qcells_at l i (by simpa using h)
    rw [show (i + 1) * 3 = i * 3 + 1 + 1 + 1 from by omega]
    simpa [qcells, Nat.add_right_comm] using this

set_option maxHeartbeats 8000000 in
theorem raw_walk (l a c d : Q) (p q : Int) (hl : l.i64) (ha : a.i64) (hc : c.i64) (hd : d.i64) (w : World) :
    Calls Try.prog 6 #[.agg #[.int .i64 l.b, .int .i64 l.o, .int .i64 l.r], .agg #[.int .i64 a.b, .int .i64 a.o, .int .i64 a.r], .agg #[.int .i64 c.b, .int .i64 c.o, .int .i64 c.r], .agg #[.int .i64 d.b, .int .i64 d.o, .int .i64 d.r], .int .i64 p, .int .i64 q] w fun e w' => e = .returned (.bool true) ∧ Mod [] w w' := by
  go_enter Try.func6, Try.ntmps6
  go_wp2_with fail
  refine (New_any l _ hl).mono ?_
  rintro e w1 ⟨b, rfl, hm1, hb, hM⟩
  have hmw := (((((Mod.refl [] w).alloc (.cells #[.int .i64 l.b, .int .i64 l.o, .int .i64 l.r] 24 (0, 0))).alloc (.cells #[.int .i64 a.b, .int .i64 a.o, .int .i64 a.r] 24 (0, 0))).alloc (.cells #[.int .i64 c.b, .int .i64 c.o, .int .i64 c.r] 24 (0, 0))).alloc (.cells #[.int .i64 d.b, .int .i64 d.o, .int .i64 d.r] 24 (0, 0))).nil_then hm1
  have k0 := hm1.at (at_alloc_old (at_alloc_old (at_alloc_old (at_alloc w (.cells #[.int .i64 l.b, .int .i64 l.o, .int .i64 l.r] 24 (0, 0)))))) (by simp)
  have k1 := hm1.at (at_alloc_old (at_alloc_old (at_alloc (w.alloc (.cells #[.int .i64 l.b, .int .i64 l.o, .int .i64 l.r] 24 (0, 0))) (.cells #[.int .i64 a.b, .int .i64 a.o, .int .i64 a.r] 24 (0, 0))))) (by simp)
  have k2 := hm1.at (at_alloc_old (at_alloc ((w.alloc (.cells #[.int .i64 l.b, .int .i64 l.o, .int .i64 l.r] 24 (0, 0))).alloc (.cells #[.int .i64 a.b, .int .i64 a.o, .int .i64 a.r] 24 (0, 0))) (.cells #[.int .i64 c.b, .int .i64 c.o, .int .i64 c.r] 24 (0, 0)))) (by simp)
  have k3 := hm1.at (at_alloc (((w.alloc (.cells #[.int .i64 l.b, .int .i64 l.o, .int .i64 l.r] 24 (0, 0))).alloc (.cells #[.int .i64 a.b, .int .i64 a.o, .int .i64 a.r] 24 (0, 0))).alloc (.cells #[.int .i64 c.b, .int .i64 c.o, .int .i64 c.r] 24 (0, 0))) (.cells #[.int .i64 d.b, .int .i64 d.o, .int .i64 d.r] 24 (0, 0))) (by simp)
  simp only [World.size_alloc] at k1 k2 k3 hb
  have hsz := hm1.gt
  simp only [World.size_alloc] at hsz
  have z0 : w.heap.size < w1.heap.size := by omega
  have z1 : w.heap.size + 1 < w1.heap.size := by omega
  have z2 : w.heap.size + 1 + 1 < w1.heap.size := by omega
  have j0 := cells_of k0
  have j1 := cells_of k1
  have j2 := cells_of k2
  have j3 := cells_of k3
  clear hm1 k0 k1 k2 k3
  go_wp2_with fail
  have hlb := lt_of hM.blk
  have hm2 := (hmw.alloc (.cells #[.int .i64 l.b, .int .i64 l.o, .int .i64 l.r, .slice none 0 0] 37 (0, 0))).alloc (.cells (qcells [a, c, d, a]).toArray 24 (0, 0))
  have hMV := hM.mod (((Mod.refl [] w1).alloc (.cells #[.int .i64 l.b, .int .i64 l.o, .int .i64 l.r, .slice none 0 0] 37 (0, 0))).alloc (.cells (qcells [a, c, d, a]).toArray 24 (0, 0))) (by simp)
  have hrb := at_alloc_old (o := .cells (qcells [a, c, d, a]).toArray 24 (0, 0)) (at_alloc w1 (.cells #[.int .i64 l.b, .int .i64 l.o, .int .i64 l.r, .slice none 0 0] 37 (0, 0)))
  have hgs := at_alloc (w1.alloc (.cells #[.int .i64 l.b, .int .i64 l.o, .int .i64 l.r, .slice none 0 0] 37 (0, 0))) (.cells (qcells [a, c, d, a]).toArray 24 (0, 0))
  rw [World.size_alloc] at hgs
  have hsz2 := hmw.size
  have hne : b ≠ w1.heap.size := by omega
  clear hM hmw j0 j1 j2 j3
  generalize hVe : (w1.alloc (.cells #[.int .i64 l.b, .int .i64 l.o, .int .i64 l.r, .slice none 0 0] 37 (0, 0))).alloc (.cells (qcells [a, c, d, a]).toArray 24 (0, 0)) = V at *
  have hVe' : (w1.alloc (.cells #[.int .i64 l.b, .int .i64 l.o, .int .i64 l.r, .slice none 0 0] 37 (0, 0))).alloc (.cells #[.int .i64 a.b, .int .i64 a.o, .int .i64 a.r, .int .i64 c.b, .int .i64 c.o, .int .i64 c.r, .int .i64 d.b, .int .i64 d.o, .int .i64 d.r, .int .i64 a.b, .int .i64 a.o, .int .i64 a.r] 24 (0, 0)) = V := hVe
  rw [hVe']
  clear hVe hVe'
  have hP0 : Pair [b, w1.heap.size] V b w1.heap.size l (fun _ => Q.zero) [] V :=
    ⟨none, .slice none 0 0, Mod.refl _ _, hMV, ⟨hl, hrb, World.ownsRow_nil _ _ _ _, by simp [Value.ownBlock], by simp⟩, by simp, by simp, hne, by simp, by simp [Value.ownBlock], by simp, by simp, by simp [Value.ownBlock]⟩
  have hgl := lt_of hgs
  clear hMV hrb
  have hq4 : ∀ x, x ∈ [a, c, d, a] → x.i64 := by intro x hx; simp at hx; rcases hx with rfl | rfl | rfl | rfl <;> assumption
  generalize hqs : [a, c, d, a] = qs at *
  have hql : qs.length = 4 := by rw [← hqs]; rfl
  clear hqs ha hc hd
  generalize hrbe : w1.heap.size = rb at *
  go_loopw [28] (fun i wr => ∃ k : Nat, k ≤ 4 ∧ i = .int .i64 k ∧ ∃ f L, Pair [b, rb] V b rb l f L wr ∧ Agree f L ∧ L.length ≤ 2 * k) (fun i _ => 4 - (intOf i).toNat)
  case atStart => exact ⟨0, by omega, rfl, _, _, hP0, fun _ => rfl, by simp⟩
  case round =>
    obtain ⟨k, hk1, rfl, f, L, hP, hA, hL⟩ := hrel
    by_cases hlt : k < 4
    · obtain ⟨c0, c1, c2⟩ := qcells_at qs k (by omega)
      have hxi := hq4 qs[k] (by simp)
      have hcg := cells_of (hP.mod.at hgs (by simp; omega))
      have d0 := hcg (k * 3)
      have d1 := hcg (k * 3 + 1)
      have d2 := hcg (k * 3 + 2)
      simp only [List.getElem?_toArray, c0, c1, c2] at d0 d1 d2
      generalize qs[k] = x at *
      obtain ⟨S2, hS2, hB⟩ := hP.base
      have hPW := hB [] _ ((Mod.refl [] wr).alloc (.cells #[.int .i64 x.b, .int .i64 x.o, .int .i64 x.r] 24 (0, 0))) (by simp)
      have hwx := at_alloc wr (.cells #[.int .i64 x.b, .int .i64 x.o, .int .i64 x.r] 24 (0, 0))
      have hmW := hP.mod.alloc (.cells #[.int .i64 x.b, .int .i64 x.o, .int .i64 x.r] 24 (0, 0))
      have hfr : wr.heap.size ∉ S2 := fun h => by have := (hS2 _ h).1; omega
      have hback : ∀ {f' L' w'}, Pair S2 (wr.alloc (.cells #[.int .i64 x.b, .int .i64 x.o, .int .i64 x.r] 24 (0, 0))) b rb l f' L' w' → Pair [b, rb] V b rb l f' L' w' := fun h => h.back hmW (by simp) (by simp) (fun y hy => (hS2 y hy).2)
      have hlen : L.length < 1000000 := by omega
      clear hP c0 c1 c2 hcg hP0 hB hS2
      go_wp2_with fail
      clear d0 d1 d2
      generalize wr.alloc (.cells #[.int .i64 x.b, .int .i64 x.o, .int .i64 x.r] 24 (0, 0)) = W at *
      have hA1 := hA.add l p x
      have hA2 := hA1.sub q x
      have hl1 := addL_length l L p x
      have hl2 := subL_length (addL l L p x) q x
      have hfp := hPW.pos p
      have hf1q : (addF l f p x q).pos := by
        unfold addF
        split
        · rename_i h
          unfold upd
          split
          · exact (fitsE_zero h hfp hl).1
          · exact hPW.pos q
        · exact hPW.pos q
      generalize hf1 : addF l f p x = f1 at *
      generalize hL1 : addL l L p x = L1 at *
      generalize hf2 : subF f1 q x = f2 at *
      generalize hL2 : subL L1 q x = L2 at *
      have hlen1 : L1.length < 1000000 := by omega
      have hbx := GW.cells (S := S2) hwx hfr
      refine wp_region_stage (fun w' => ∃ x : GW S2 W, w' = x.1) (Pair S2 W b rb l f L) (by kernel_rfl) (by kernel_rfl) (fun _ h => InGW.of h.mod) (hPW.then (Mod.refl _ _).drew) ?_
      refine stage_quiet 3 (by kernel_rfl) ?_
      simp only [List.take_succ_cons, List.take_zero, List.drop_succ_cons, List.drop_zero]
      repeat (go_big_quiet_step (fail))
      refine wpQuiet_nil ?_
      refine stage_go 15 _ (.int .i64 (fitsE l (f p) x)) (Pair S2 W b rb l f L) rfl Try.call15 rfl rfl (fun w' h => Pair_Fits h p x) (fun _ h => InGW.of h.mod) ?_
      simp only [Act.put, List.setIfInBounds_toArray, List.set_cons_succ, List.set_cons_zero]
      refine stage_quiet 3 (by kernel_rfl) ?_
      simp only [List.take_succ_cons, List.take_zero, List.drop_succ_cons, List.drop_zero]
      repeat (go_big_quiet_step (fail))
      refine wpQuiet_nil ?_
      refine stage_go 16 _ (.int .i64 (fitsE l (f p) x)) (Pair S2 W b rb l f L) rfl Try.call16 rfl rfl (fun w' h => by have := Pair_RFits h p x (hA p ▸ h.pos p) hxi; rw [← hA p] at this; exact this) (fun _ h => InGW.of h.mod) ?_
      simp only [Act.put, List.setIfInBounds_toArray, List.set_cons_succ, List.set_cons_zero]
      refine stage_quiet 5 (by kernel_rfl) ?_
      simp only [List.take_succ_cons, List.take_zero, List.drop_succ_cons, List.drop_zero]
      repeat (go_big_quiet_step (fail))
      refine wpQuiet_nil ?_
      refine stage_go 9 _ (.int .i64 (fitsE l (f p) x)) (Pair S2 W b rb l f1 L) rfl Try.call9 rfl rfl (fun w' h => by have := Pair_Add h p x; rw [hf1] at this; exact this) (fun _ h => InGW.of h.mod) ?_
      simp only [Act.put, List.setIfInBounds_toArray, List.set_cons_succ, List.set_cons_zero]
      refine stage_quiet 3 (by kernel_rfl) ?_
      simp only [List.take_succ_cons, List.take_zero, List.drop_succ_cons, List.drop_zero]
      repeat (go_big_quiet_step (fail))
      refine wpQuiet_nil ?_
      refine stage_go 17 _ (.int .i64 (fitsE l (f p) x)) (Pair S2 W b rb l f1 L1) rfl Try.call17 rfl rfl (fun w' h => by have := Pair_RAdd h p x (hA p ▸ hfp) hxi hlen; rw [← hA p, hL1] at this; exact this) (fun _ h => InGW.of h.mod) ?_
      simp only [Act.put, List.setIfInBounds_toArray, List.set_cons_succ, List.set_cons_zero]
      refine stage_quiet 5 (by kernel_rfl) ?_
      simp only [List.take_succ_cons, List.take_zero, List.drop_succ_cons, List.drop_zero]
      repeat (go_big_quiet_step (fail))
      refine wpQuiet_nil ?_
      refine stage_go 11 _ (.agg #[.int .i64 (f1 p).b, .int .i64 (f1 p).o, .int .i64 (f1 p).r]) (Pair S2 W b rb l f1 L1) rfl Try.call11 rfl rfl (fun w' h => Pair_Get h p) (fun _ h => InGW.of h.mod) ?_
      simp only [Act.put, List.setIfInBounds_toArray, List.set_cons_succ, List.set_cons_zero]
      refine stage_quiet 2 (by kernel_rfl) ?_
      simp only [List.take_succ_cons, List.take_zero, List.drop_succ_cons, List.drop_zero]
      repeat (go_big_quiet_step (fail))
      refine wpQuiet_nil ?_
      refine stage_go 14 _ (.agg #[.int .i64 (f1 p).b, .int .i64 (f1 p).o, .int .i64 (f1 p).r]) (Pair S2 W b rb l f1 L1) rfl Try.call14 rfl rfl (fun w' h => by have := Pair_RGet h p; rw [← hA1 p] at this; exact this) (fun _ h => InGW.of h.mod) ?_
      simp only [Act.put, List.setIfInBounds_toArray, List.set_cons_succ, List.set_cons_zero]
      refine stage_quiet 6 (by kernel_rfl) ?_
      simp only [List.take_succ_cons, List.take_zero, List.drop_succ_cons, List.drop_zero]
      repeat (go_big_quiet_step (fail))
      refine wpQuiet_nil ?_
      refine stage_go 12 _ (.int .i64 (subE (f1 q) x)) (Pair S2 W b rb l f2 L1) rfl Try.call12 rfl rfl (fun w' h => by have := Pair_Sub h q x; rw [hf2] at this; exact this) (fun _ h => InGW.of h.mod) ?_
      simp only [Act.put, List.setIfInBounds_toArray, List.set_cons_succ, List.set_cons_zero]
      refine stage_quiet 3 (by kernel_rfl) ?_
      simp only [List.take_succ_cons, List.take_zero, List.drop_succ_cons, List.drop_zero]
      repeat (go_big_quiet_step (fail))
      refine wpQuiet_nil ?_
      refine stage_go 18 _ (.int .i64 (subE (f1 q) x)) (Pair S2 W b rb l f2 L2) rfl Try.call18 rfl rfl (fun w' h => by have := Pair_RSub h q x (hA1 q ▸ hf1q) hlen1; rw [← hA1 q, hL2] at this; exact this) (fun _ h => InGW.of h.mod) ?_
      simp only [Act.put, List.setIfInBounds_toArray, List.set_cons_succ, List.set_cons_zero]
      refine stage_quiet 5 (by kernel_rfl) ?_
      simp only [List.take_succ_cons, List.take_zero, List.drop_succ_cons, List.drop_zero]
      repeat (go_big_quiet_step (fail))
      refine wpQuiet_nil ?_
      refine stage_go 11 _ (.agg #[.int .i64 (f2 q).b, .int .i64 (f2 q).o, .int .i64 (f2 q).r]) (Pair S2 W b rb l f2 L2) rfl Try.call11 rfl rfl (fun w' h => Pair_Get h q) (fun _ h => InGW.of h.mod) ?_
      simp only [Act.put, List.setIfInBounds_toArray, List.set_cons_succ, List.set_cons_zero]
      refine stage_quiet 2 (by kernel_rfl) ?_
      simp only [List.take_succ_cons, List.take_zero, List.drop_succ_cons, List.drop_zero]
      repeat (go_big_quiet_step (fail))
      refine wpQuiet_nil ?_
      refine stage_go 14 _ (.agg #[.int .i64 (f2 q).b, .int .i64 (f2 q).o, .int .i64 (f2 q).r]) (Pair S2 W b rb l f2 L2) rfl Try.call14 rfl rfl (fun w' h => by have := Pair_RGet h q; rw [← hA2 q] at this; exact this) (fun _ h => InGW.of h.mod) ?_
      simp only [Act.put, List.setIfInBounds_toArray, List.set_cons_succ, List.set_cons_zero]
      refine stage_quiet 2 (by kernel_rfl) ?_
      simp only [List.take_succ_cons, List.take_zero, List.drop_succ_cons, List.drop_zero]
      repeat (go_big_quiet_step (fail))
      refine wpQuiet_nil ?_
      refine stage_nil fun w2 h2 => ?_
      have hfin := hback h2
      clear hbx h2 hback hfp hf1q hPW hmW hwx hxi
      go_wp2_with fail
      go_roundw
      case rel => exact ⟨k + 1, by omega, by go_num, f2, L2, hfin, hA2, by omega⟩
      case measure => simp [intOf]; omega
    · have hk : k = 4 := by omega
      subst hk
      have hmr := hm2.then hP.mod (by simp; omega)
      obtain ⟨S2, hS2, hB⟩ := hP.base
      have hPW := hB [] _ (Mod.refl _ _) (by simp)
      have hSw : ∀ x, x ∈ S2 → w.heap.size ≤ x := fun x hx => by
        have := hm2.size
        rcases (hS2 x hx).2 with h | h
        · simp at h; omega
        · omega
      clear hP hB hS2 hP0
      go_wp2_with fail
      refine (Pair_Reset hPW p).mono ?_
      rintro e w3 ⟨rfl, h3⟩
      go_wp2_with fail
      refine (Pair_RReset h3 p (by omega)).mono ?_
      rintro e w4 ⟨rfl, h4⟩
      go_wp2_with fail
      refine (awake_any _).mono ?_
      rintro e w5 ⟨rfl, h5⟩
      have h6 := h4.then h5
      have hAz := hA.set p Q.zero
      have hz : upd f p Q.zero p = ⟨0, 0, 0⟩ := by unfold upd; rw [if_pos rfl]; rfl
      have HZ := Lib.hid hz
      have HQ := Lib.hid (hAz q)
      clear h3 h4 h5 hz hA
      go_wp2_with fail
      refine (Pair_Get h6 p).mono ?_
      rw [HZ.out]
      rintro e w6 ⟨rfl, h7⟩
      go_wp2_with fail
      refine (Pair_Get h7 q).mono ?_
      rintro e w7 ⟨rfl, h8⟩
      go_wp2_with fail
      refine (Pair_RGet h8 q).mono ?_
      rw [← HQ.out]
      rintro e w8 ⟨rfl, h9⟩
      have hfin := hmr.then h9.mod (fun x hx => .inr (hSw x hx))
      clear h6 h7 h8 h9 hPW hmr
      go_wp2_with fail
      go_ret
      exact ⟨rfl, hfin⟩
end Go.Proofs.Ytbjjeacdgbppoaa
