/- Borrows: Release, EndObject, EndHolder. -/
import Derived.Test.YtappkiiihnaegaaBRem
namespace Go
namespace Stg
/-- One part of two becomes two parts. -/
theorem Hold.pull : ∀ {cs : List Comp} {w : World} {fp : List Nat} (i : Nat) {c1 c2 : Comp}, Hold cs w fp → cs[i]? = some (Comp.all [c1, c2]) → ∃ fp', Hold (c1 :: cs.set i c2) w fp' ∧ ∀ x ∈ fp', x ∈ fp
  | [], _, _, _, _, _, _, hi => by simp at hi
  | c0 :: cs, w, fp, 0, c1, c2, ⟨f, g, h1, h2, h3, e⟩, hi => by
    obtain rfl : c0 = Comp.all [c1, c2] := by simpa using hi
    obtain ⟨f1, _, a1, ⟨f2, _, a2, rfl, _, rfl⟩, a3, e2⟩ := h1
    subst e e2
    refine ⟨f1 ++ (f2 ++ g), ⟨f1, f2 ++ g, a1, ⟨f2, g, a2, h2, fun x hx hg => h3 x (by simp [hx]) hg, rfl⟩, fun x hx hg => ?_, rfl⟩, fun x hx => by simp at hx ⊢; rcases hx with h | h | h <;> simp [h]⟩
    rcases List.mem_append.1 hg with h | h
    · exact a3 x hx (by simpa using h)
    · exact h3 x (by simp [hx]) h
  | c0 :: cs, w, fp, i + 1, c1, c2, ⟨f, g, h1, h2, h3, e⟩, hi => by
    subst e
    obtain ⟨g', ⟨f1, g1, k1, k2, k3, rfl⟩, k4⟩ := Hold.pull i h2 (by simpa using hi)
    refine ⟨f1 ++ (f ++ g1), ⟨f1, f ++ g1, k1, ⟨f, g1, h1, k2, fun x hx hg => h3 x hx (k4 x (by simp [hg])), rfl⟩, fun x hx hg => ?_, rfl⟩, fun x hx => ?_⟩
    · rcases List.mem_append.1 hg with h | h
      · exact h3 x h (k4 x (by simp [hx]))
      · exact k3 x hx h
    · simp only [List.mem_append] at hx ⊢
      rcases hx with h | h | h
      · exact .inr (k4 x (by simp [h]))
      · exact .inl h
      · exact .inr (k4 x (by simp [h]))
theorem Scene.pull {F : List Nat} {W w : World} {cs : List Comp} (i : Nat) {c1 c2 : Comp} (h : Scene F W cs w) (hi : cs[i]? = some (Comp.all [c1, c2])) : Scene F W (c1 :: cs.set i c2) w := by
  obtain ⟨h1, fp, h2, h3⟩ := h
  obtain ⟨fp', k1, k2⟩ := Hold.pull i h2 hi
  exact ⟨h1, fp', k1, fun x hx => h3 x (k2 x hx)⟩
/-- A call that lays a new part beside the one that it changes. -/
theorem Scene.callNew {P : Program} {fn : FuncId} {args : Array Value} {F : List Nat} {W w : World} {cs : List Comp} (i : Nat) {c c' : Comp} {cn : Value → Comp} (h : Scene F W cs w) (hi : cs[i]? = some c)
    (hc : ∀ f, c.on w f → Calls P fn args w fun e w' => ∃ v, e = .returned v ∧ Scene f w [cn v, c'] w') :
    Calls P fn args w fun e w' => ∃ v, e = .returned v ∧ Scene F W (cn v :: cs.set i c') w' := by
  obtain ⟨f, h1, h2⟩ := h.part i hi
  refine (hc f h1).mono ?_
  rintro e w' ⟨v, he, k1, fp, k2, k3⟩
  have h3 := (h2 w' fp (Comp.all [cn v, c']) k2 k1 k3).pull (c1 := cn v) (c2 := c') i (by
    have hl : i < cs.length := (List.getElem?_eq_some_iff.1 hi).1
    simp [hl])
  rw [List.set_set] at h3
  exact ⟨v, he, h3⟩
theorem Scene.own {c : Comp} {w : World} {f : List Nat} (h : c.on w f) : Scene f w [c] w := by
  have := Scene.start (cs := [c]) (w := w) (fp := f ++ []) ⟨f, [], h, rfl, by simp, rfl⟩
  rwa [List.append_nil] at this
theorem Scene.takes {c' : Comp} {w w' : World} {f : List Nat} {v : Value} (h : Scene f w [c'] w') : Takes c' v w f (.returned v) w' := by
  obtain ⟨h1, fp, ⟨f', g, k1, k2, _, rfl⟩, h3⟩ := h
  exact ⟨f', rfl, k1, h1, fun x hx => h3 x (List.mem_append_left _ hx)⟩
end Stg
end Go
namespace Go.Proofs.Ytappkiiihnaegaa
open Go Go.RowKit Go.Stg

theorem relE_some {L : List Bor} {k : Int × Int} {x : Bor} (h : getB L k = some x) : relE L k = 0 := by unfold relE; rw [h]
theorem relE_none {L : List Bor} {k : Int × Int} (h : getB L k = none) : relE L k = 13 := by unfold relE; rw [h]
theorem relL_none {L : List Bor} {k : Int × Int} (h : getB L k = none) : relL L k = L := by unfold relL; rw [h]
theorem relL_last {L : List Bor} {k : Int × Int} {m : Int} (h : getB L k = some (k, (m, 1))) : relL L k = without L k := by unfold relL; rw [h]; rfl
theorem relL_less {L : List Bor} {k : Int × Int} {m c : Int} (h : getB L k = some (k, (m, c))) (hc : c ≠ 1) : relL L k = putB L (k, (m, c - 1)) := by unfold relL; rw [h]; simp [hc]
set_option maxHeartbeats 1600000 in
set_option maxRecDepth 10000 in
theorem release_ok {w : World} {b : Nat} {L : List Bor} {f : List Nat} (h : (ledC b L).on w f) {N : Int} (hI : LInv N L) (hN : N ≤ 1000000) (hl : L.length ≤ 1000000) (o k : Int) :
    Calls Try.prog 14 #[.pointer (some ⟨b, 0, none⟩), .int .i64 o, .int .i64 k] w (Takes (ledC b (relL L (o, k))) (.int .i64 (relE L (o, k))) w f) := by
  have hho := holds_ok (LedV.of h) hI.srt o k
  cases hg : getB L (o, k) with
  | none =>
    rw [hg] at hho
    rw [relE_none hg, relL_none hg]
    have hhoH := Lib.hid hho
    have hhH := Lib.hid h
    clear hho h hI hg
    go_enter Try.func14, Try.ntmps14
    go_wp2_with fail
    refine hhoH.out.mono ?_
    unfold foundV bv b0
    rintro e w1 ⟨rfl, hm1⟩
    have hm1H := Lib.hid hm1
    clear hm1
    go_wp2_with fail
    go_ret
    exact Takes.same hhH.out (by repeat (first | exact hm1H.out | refine Mod.alloc ?_ _))
  | some x =>
    obtain ⟨⟨xo, xk⟩, m, c0⟩ := x
    have hk := (getB_some hg).2
    simp only [Prod.mk.injEq] at hk
    obtain ⟨rfl, rfl⟩ := hk
    have h1 := hI.one _ (getB_some hg).1
    simp only at h1
    rw [hg] at hho
    rw [relE_some hg]
    have hhoH := Lib.hid hho
    have hgH := Lib.hid hg
    have hs := Lib.hid hI.srt
    by_cases hc1 : c0 = 1
    · subst hc1
      rw [relL_last hg]
      have hhH := Lib.hid h
      clear hho h hI hg
      go_enter Try.func14, Try.ntmps14
      go_wp2_with fail
      refine hhoH.out.mono ?_
      unfold foundV bv
      rintro e w1 ⟨rfl, hm1⟩
      have hm2 := hm1.alloc (.cells #[.int .i64 xo, .int .i64 xk, .int .i64 m, .int .i64 0] 25)
      have hm2H := Lib.hid hm2
      clear hm1 hm2
      go_wp2_with fail
      refine (remove_ok ((ledC b L).keep hhH.out hm2H.out (by simp)) hs.out hl xo xk m 0 hgH.out).mono ?_
      rintro e w3 ⟨f', rfl, k1, k2, k3⟩
      have hfin : Hid (Takes (ledC b (without L (xo, xk))) (.int .i64 0) w f (.returned (.int .i64 0)) w3) := Lib.hid ⟨f', rfl, k1, (hm2H.out.mono (by simp)).then k2 (fun x hx => .inl hx), fun x hx => (k3 x hx).imp id (fun h => Nat.le_trans hm2H.out.size h)⟩
      clear k1 k2 k3
      go_wp2_with fail
      go_ret
      exact hfin.out
    · rw [relL_less hg hc1]
      have hz : (c0 - 1 == 0) = false := by simp; omega
      rcases h with ⟨hb, hL, rfl⟩ | ⟨a, c, bs, hb, hab, hcb, hac, hM, hp, hC, rfl⟩
      · subst hL; cases hg
      · have hcs := Lib.hid (hC.same fun q => ofO_put_old hI.srt.nodup (b := ((xo, xk), (m, c0 - 1))) hg q)
        have hnod := Lib.hid (((hp.map (·.1)).nodup_iff).2 hI.srt.nodup)
        have hbH := Lib.hid hb
        have hMH := Lib.hid hM
        have hpH := Lib.hid hp
        have hab' := Lib.hid hab
        have hcb' := Lib.hid hcb
        have hac' := Lib.hid hac
        have hay := Lib.hid hM.lt
        clear hho hI hg hb hM hp hC hab hcb hac
        go_enter Try.func14, Try.ntmps14
        go_wp2_with fail
        refine hhoH.out.mono ?_
        unfold foundV bv
        rintro e w1 ⟨rfl, hm1⟩
        have hm2 := hm1.alloc (.cells #[.int .i64 xo, .int .i64 xk, .int .i64 m, .int .i64 (c0 - 1)] 25)
        have hbox := at_alloc w1 (.cells #[.int .i64 xo, .int .i64 xk, .int .i64 m, .int .i64 (c0 - 1)] 25)
        have hsz := hm1.size
        have hm2H := Lib.hid hm2
        have hboxH := Lib.hid hbox
        clear hm1 hm2 hbox
        go_wp2_with fail
        generalize hss : w1.heap.size = s at *
        generalize w1.alloc (.cells #[.int .i64 xo, .int .i64 xk, .int .i64 m, .int .i64 (c0 - 1)] 25) = W at *
        have h2b := Lib.hid (hm2H.out.at hbH.out (by simp))
        have h2M := Lib.hid (hMH.out.mod hm2H.out (by simp))
        have q1 := GW.cells (S := [a]) h2b.out (by simpa using hab'.out.symm)
        have q2 := GW.cells (S := [a]) hboxH.out (by simpa using Nat.ne_of_gt (Nat.lt_of_lt_of_le hay.out hsz))
        refine wp_region_stage (fun w' => ∃ x : GW [a] W, w' = x.1) (fun w' => Mod [] W w') (by kernel_rfl) (by kernel_rfl) (fun _ h => InGW.of (h.mono (by simp))) (Mod.refl _ _).drew ?_
        refine stage_quiet 8 (by kernel_rfl) ?_
        simp only [List.take_succ_cons, List.take_zero, List.drop_succ_cons, List.drop_zero]
        repeat (go_big_quiet_step (fail))
        refine wpQuiet_nil ?_
        refine stage_put (fun w' => Mod [a] W w' ∧ ∃ bs', MapIs w' a bs' ∧ bs'.Perm (((xo, xk), (m, c0 - 1)) :: without bs (xo, xk))) rfl rfl rfl rfl rfl (fun w' h => ?_) (fun _ h => InGW.of h.1) ?_
        · obtain ⟨w4, bs', hr, hM, hmd, hsz, hp⟩ := put_b (h2M.out.mod h (by simp)) hnod.out ((xo, xk), (m, c0 - 1))
          exact ⟨w4, hr, (h.mono (by simp)).trans hmd, bs', hM, hp⟩
        simp only [Act.put]
        refine stage_nil fun W3 hm3 => ?_
        obtain ⟨hm3, bs', hM3, hp3⟩ := hm3
        have hm3H := Lib.hid hm3
        have hM3H := Lib.hid hM3
        have hp3H := Lib.hid hp3
        clear hm3 hM3 hp3 q1 q2
        go_wp2_with fail
        go_ret
        exact ⟨[b, a, c], rfl, LedAt.of (hm3H.out.at h2b.out (by simpa using hab'.out.symm)) hab'.out hcb'.out hac'.out hM3H.out (hp3H.out.trans (((hpH.out.filter _).cons _).trans (put_perm L _).symm)) ((hcs.out.mod hm2H.out (by simp)).mod hm3H.out (by simpa using hac'.out.symm)), (hm2H.out.mono (by simp)).then hm3H.out (fun x hx => .inl (by simp at hx; simp [hx])), fun x hx => .inl hx⟩
/-- The next one of those found is taken away. -/
theorem drop_step {L : List Bor} (hS : Srt L) {p : Bor → Bool} {k : Nat} {x : Bor} (hk : (L.filter p)[k]? = some x) :
    getB (dropK L (((L.filter p).map (·.1)).take k)) x.1 = some x ∧ without (dropK L (((L.filter p).map (·.1)).take k)) x.1 = dropK L (((L.filter p).map (·.1)).take (k + 1)) := by
  obtain ⟨hlt, he⟩ := List.getElem?_eq_some_iff.1 hk
  have hn := (hS.filter p).nodup
  have hx : x ∈ L.filter p := he ▸ List.getElem_mem hlt
  have hs : ((L.filter p).map (·.1)).take (k + 1) = ((L.filter p).map (·.1)).take k ++ [x.1] := by
    rw [snoc_take _ (by simpa using hlt), List.getElem_map, he]
  constructor
  · refine dropK_get hS.nodup (List.mem_filter.1 hx).1 fun hm => ?_
    have h2 : (((L.filter p).map (·.1)).take (k + 1)).Nodup := (List.take_sublist _ _).nodup hn
    rw [hs, List.nodup_append] at h2
    exact h2.2.2 _ hm x.1 (by simp) rfl
  · rw [hs, dropK_snoc]
theorem endO_ok {w : World} {b : Nat} {L : List Bor} {f : List Nat} (h : (ledC b L).on w f) (hS0 : Srt L) (hl : L.length ≤ 1000000) (o : Int) :
    Calls Try.prog 27 #[.pointer (some ⟨b, 0, none⟩), .int .i64 o] w fun e w' => ∃ v, e = .returned v ∧ Scene f w [rowC v (ofO L o).length 25 4 (flat bcell (ofO L o)), ledC b (cut L fun x => decide (x.1.1 = o))] w' := by
  have hof0 := of_ok (LedV.of h) hS0 hl o
  unfold ofO at hof0 ⊢
  have hof := Lib.hid hof0
  clear hof0
  have hs0 := Lib.hid hS0
  have hhH := Lib.hid h
  clear h hS0
  go_enter Try.func27, Try.ntmps27
  go_wp2_with fail
  refine hof.out.mono ?_
  rintro e w1 ⟨v, rfl, hr, hm1⟩
  obtain ⟨oa, ol, oc, rfl⟩ : ∃ a l c, v = .slice a l c := by
    rcases row_cases hr with ⟨rfl, _⟩ | ⟨_, _, rfl, _⟩ <;> exact ⟨_, _, _, rfl⟩
  have hln := fun ty w' => row_len (ty := ty) Try.underlying36 hr w'
  have hS1 := Lib.hid ((Scene.own hhH.out).add (c := rowC (.slice oa ol oc) (L.filter fun x => decide (x.1.1 = o)).length 25 4 (flat bcell (L.filter fun x => decide (x.1.1 = o)))) hm1 ⟨row_base hr (Nat.zero_le _), rfl⟩ (fun x hx => (hr.lt x (by simpa using hx)).1))
  have hfl : (L.filter fun x => decide (x.1.1 = o)).length ≤ L.length := List.length_filter_le _ _
  clear hm1 hr
  go_wp2_with fail
  go_loopw [13] (fun i wr => ∃ k : Nat, k ≤ (L.filter fun x => decide (x.1.1 = o)).length ∧ i = .int .i64 k ∧ Scene f w [rowC (.slice oa ol oc) (L.filter fun x => decide (x.1.1 = o)).length 25 4 (flat bcell (L.filter fun x => decide (x.1.1 = o))), ledC b (dropK L (((L.filter fun x => decide (x.1.1 = o)).map (·.1)).take k))] wr) (fun i _ => (L.filter fun x => decide (x.1.1 = o)).length - (intOf i).toNat)
  case atStart => exact ⟨0, by omega, rfl, by rw [List.take_zero, dropK_nil]; exact hS1.out⟩
  case round =>
    obtain ⟨k, hk, rfl, hS⟩ := hrel
    have hSH := Lib.hid hS
    by_cases hlt : k < (L.filter fun x => decide (x.1.1 = o)).length
    · obtain ⟨g, cap, hv, _, hg, xo, xh, xm, xc, hs, hx, c0, c1, c2, c3⟩ := bor_cells (hS.row 0 rfl) rfl hlt
      cases hv
      have hst := drop_step hs0.out (p := (fun x => decide (x.1.1 = o))) hx
      have hstH := Lib.hid hst
      clear hS hS1 hs hx hst
      go_wp2_with fail
      refine (Scene.call 1 (hSH.out.then ((Mod.refl [] wr).alloc (.cells #[.int .i64 xo, .int .i64 xh, .int .i64 xm, .int .i64 xc] 25))) rfl fun f hf => remove_ok hf ((hs0.out.filter _)) (Nat.le_trans (dropK_len _ _) hl) xo xh xm xc hstH.out.1).mono ?_
      rintro e w5 ⟨rfl, hS5⟩
      have hS5H := Lib.hid hS5
      clear hS5 c0 c1 c2 c3
      go_wp2_with fail
      go_roundw
      case rel => exact ⟨k + 1, by omega, by go_num, by have h := hS5H.out; rw [hstH.out.2] at h; exact h⟩
      case measure => simp [intOf]; omega
    · obtain rfl : k = (L.filter fun x => decide (x.1.1 = o)).length := by omega
      have hfin := hSH.out
      rw [List.take_of_length_le (by simp), dropK_all L hs0.out.nodup (fun x => decide (x.1.1 = o))] at hfin
      have hfinH := Lib.hid hfin
      clear hS hfin hS1
      go_wp2_with fail
      go_ret
      exact ⟨_, rfl, hfinH.out⟩
theorem endH_ok {w : World} {b : Nat} {L : List Bor} {f : List Nat} (h : (ledC b L).on w f) (hS0 : Srt L) (hl : L.length ≤ 1000000) (o : Int) :
    Calls Try.prog 25 #[.pointer (some ⟨b, 0, none⟩), .int .i64 o] w (Takes (ledC b (cut L fun x => decide (x.1.2 = o))) (.int .i64 ((heldH L o).length : Nat)) w f) := by
  have hof0 := heldl_ok (LedV.of h) hS0 hl o
  unfold heldH at hof0 ⊢
  have hof := Lib.hid hof0
  clear hof0
  have hs0 := Lib.hid hS0
  have hhH := Lib.hid h
  clear h hS0
  go_enter Try.func25, Try.ntmps25
  go_wp2_with fail
  refine hof.out.mono ?_
  rintro e w1 ⟨v, rfl, hr, hm1⟩
  obtain ⟨oa, ol, oc, rfl⟩ : ∃ a l c, v = .slice a l c := by
    rcases row_cases hr with ⟨rfl, _⟩ | ⟨_, _, rfl, _⟩ <;> exact ⟨_, _, _, rfl⟩
  have hln := fun ty w' => row_len (ty := ty) Try.underlying36 hr w'
  have hS1 := Lib.hid ((Scene.own hhH.out).add (c := rowC (.slice oa ol oc) (L.filter fun x => decide (x.1.2 = o)).length 25 4 (flat bcell (L.filter fun x => decide (x.1.2 = o)))) hm1 ⟨row_base hr (Nat.zero_le _), rfl⟩ (fun x hx => (hr.lt x (by simpa using hx)).1))
  have hfl : (L.filter fun x => decide (x.1.2 = o)).length ≤ L.length := List.length_filter_le _ _
  clear hm1 hr
  go_wp2_with fail
  go_loopw [13] (fun i wr => ∃ k : Nat, k ≤ (L.filter fun x => decide (x.1.2 = o)).length ∧ i = .int .i64 k ∧ Scene f w [rowC (.slice oa ol oc) (L.filter fun x => decide (x.1.2 = o)).length 25 4 (flat bcell (L.filter fun x => decide (x.1.2 = o))), ledC b (dropK L (((L.filter fun x => decide (x.1.2 = o)).map (·.1)).take k))] wr) (fun i _ => (L.filter fun x => decide (x.1.2 = o)).length - (intOf i).toNat)
  case atStart => exact ⟨0, by omega, rfl, by rw [List.take_zero, dropK_nil]; exact hS1.out⟩
  case round =>
    obtain ⟨k, hk, rfl, hS⟩ := hrel
    have hSH := Lib.hid hS
    by_cases hlt : k < (L.filter fun x => decide (x.1.2 = o)).length
    · obtain ⟨g, cap, hv, _, hg, xo, xh, xm, xc, hs, hx, c0, c1, c2, c3⟩ := bor_cells (hS.row 0 rfl) rfl hlt
      cases hv
      have hst := drop_step hs0.out (p := (fun x => decide (x.1.2 = o))) hx
      have hstH := Lib.hid hst
      clear hS hS1 hs hx hst
      go_wp2_with fail
      refine (Scene.call 1 (hSH.out.then ((Mod.refl [] wr).alloc (.cells #[.int .i64 xo, .int .i64 xh, .int .i64 xm, .int .i64 xc] 25))) rfl fun f hf => remove_ok hf ((hs0.out.filter _)) (Nat.le_trans (dropK_len _ _) hl) xo xh xm xc hstH.out.1).mono ?_
      rintro e w5 ⟨rfl, hS5⟩
      have hS5H := Lib.hid hS5
      clear hS5 c0 c1 c2 c3
      go_wp2_with fail
      go_roundw
      case rel => exact ⟨k + 1, by omega, by go_num, by have h := hS5H.out; rw [hstH.out.2] at h; exact h⟩
      case measure => simp [intOf]; omega
    · obtain rfl : k = (L.filter fun x => decide (x.1.2 = o)).length := by omega
      have hfin := hSH.out
      rw [List.take_of_length_le (by simp), dropK_all L hs0.out.nodup (fun x => decide (x.1.2 = o))] at hfin
      have hfinH := Lib.hid hfin
      clear hS hfin hS1
      go_wp2_with fail
      go_ret
      exact (hfinH.out.erase 0).takes
end Go.Proofs.Ytappkiiihnaegaa
