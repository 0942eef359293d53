/- Borrows: remove and Release. -/
import Derived.Test.YtappkiiihnaegaaBLend
namespace Go.Proofs.Ytappkiiihnaegaa
open Go Go.RowKit Go.Stg

section
variable {P : Program} {ops : Array Oper} {I : World → Prop} {Out : Prop} {Q : Act → World → Prop}
/-- The last operation writes a map (everything else has come up before it). -/
theorem stage_putLast (C' : World → Prop) {o : Oper} {C : World → Prop} {a : Act} {t : TypeId} {m x y : Operand} {mv kv vv : Value} (hop : o.op = .mapUpdate t m x y) (hd : o.dst = none) (hl : lastWaits ops = true)
    (hw : Region.wanted o (yielded ops a.tmps) = true) (hm : a.eval m = mv) (hx : a.eval x = kv) (hy : a.eval y = vv)
    (hrun : ∀ w, C w → ∃ w', (Instr.mapUpdate t mv kv vv).run P w = .ok () w' ∧ C' w') (h : ∀ w, C' w → Q a w) : wpStage P ops I Out Q [o] C a := by
  unfold wpStage
  have he : eff o = true := by simp [eff, hop]
  simp only [hw, he, if_true]
  refine ⟨fun u => u = undef, fun u w' => u = undef ∧ C' w', ⟨undef, rfl⟩, fun w hc => ?_, fun u w hu => ⟨hu.1, .inl ⟨by simp, hl⟩⟩, fun u hu => ?_⟩
  · obtain ⟨w', hr, hc'⟩ := hrun w hc
    unfold gives
    have hr2 : (execOp a.eval o).run P w = .ok .skip w' := by simp [execOp, hop, hm, hx, hy, hr]
    rw [hr2]
    exact ⟨rfl, hc'⟩
  · subst hu
    intro w' ⟨_, hc'⟩
    rw [hd]
    exact h w' hc'
end
theorem del_any {w : World} {c ck : Nat} {es : Array MapEntry} {o : Int} (ty : TypeId) (hb : w.heap[c]? = some (.map es ck)) (h : IKeys es.toList) : ∃ w', (Builtin.delete_ #[53, 3] ty #[.map (some c), .int .i64 o]).run Try.prog w = .ok (.tuple #[]) w' ∧ w'.heap[c]? = some (.map (mdel o es) ck) ∧ Mod [c] w w' :=
  ⟨_, run_delete_int Try.underlying53 Try.underlying3 hb h o #[53, 3] rfl, at_setMap hb, (Mod.refl _ w).setMap (.inl (by simp)) _⟩
set_option maxHeartbeats 1600000 in
set_option maxRecDepth 10000 in
theorem remove_ok {w : World} {b : Nat} {L : List Bor} {f : List Nat} (h : (ledC b L).on w f) (hS : Srt L) (hl : L.length ≤ 1000000) {x : Bor} (yo yh ym yc : Int) (hg : getB L (yo, yh) = some x) :
    Calls Try.prog 31 #[.pointer (some ⟨b, 0, none⟩), .agg #[.int .i64 yo, .int .i64 yh, .int .i64 ym, .int .i64 yc]] w (Takes (ledC b (without L (yo, yh))) (.tuple #[]) w f) := by
  rcases h with ⟨hb, hL, rfl⟩ | ⟨a, c, bs, hb, hab, hcb, hac, hM, hp, hC, rfl⟩
  · subst hL; cases hg
  · obtain ⟨es, ck, hc, hCA⟩ := hC.at
    have hse := Lib.hid fun q => ofO_without hS.nodup hg q
    have hnod := Lib.hid (((hp.map (·.1)).nodup_iff).2 hS.nodup)
    have hol : (ofO L yo).length ≤ L.length := List.length_filter_le _ _
    have hlk := hCA.get yo
    have hn1 : 1 ≤ (ofO L yo).length := by have := ofO_without hS.nodup hg yo; rw [if_pos rfl] at this; omega
    obtain ⟨n, hn⟩ : ∃ n : Int, n = ((ofO L yo).length : Nat) := ⟨_, rfl⟩
    have hnb : 1 ≤ n ∧ n ≤ 1000000 := by omega
    rw [← hn] at hlk
    have hlkH := Lib.hid hlk
    have hnH := Lib.hid hn
    have hpH := Lib.hid hp
    have hCAH := Lib.hid hCA
    have h1b := Lib.hid (at_alloc_old (o := .cells #[.int .i64 yo, .int .i64 yh, .int .i64 ym, .int .i64 yc] 25) hb)
    have h1y := Lib.hid (at_alloc w (.cells #[.int .i64 yo, .int .i64 yh, .int .i64 ym, .int .i64 yc] 25))
    have h1M := Lib.hid (hM.mod ((Mod.refl [] w).alloc (.cells #[.int .i64 yo, .int .i64 yh, .int .i64 ym, .int .i64 yc] 25)) (by simp))
    have h1c := Lib.hid (at_alloc_old (o := .cells #[.int .i64 yo, .int .i64 yh, .int .i64 ym, .int .i64 yc] 25) hc)
    have h1m := Lib.hid ((Mod.refl [b, a, c] w).alloc (.cells #[.int .i64 yo, .int .i64 yh, .int .i64 ym, .int .i64 yc] 25))
    have hay := hM.lt
    have hcy := lt_of hc
    have hab' := Lib.hid hab
    have hcb' := Lib.hid hcb
    have hac' := Lib.hid hac
    clear hS hg hp hCA hlk hn hb hM hC hc hol hn1 hl hab hcb hac
    have hab := Lib.hid hab'.out
    have hcb := Lib.hid hcb'.out
    have hac := Lib.hid hac'.out
    clear hab' hcb' hac'
    go_enter Try.func31, Try.ntmps31
    go_wp2_with fail
    generalize hyb : w.heap.size = y at *
    generalize w.alloc (.cells #[.int .i64 yo, .int .i64 yh, .int .i64 ym, .int .i64 yc] 25) = W0 at *
    have q1 := GW.cells (S := [a]) h1b.out (by simpa using hab.out.symm)
    have q2 := GW.cells (S := [a]) h1y.out (by simpa using Nat.ne_of_gt hay)
    refine wp_region_stage (fun w' => ∃ x : GW [a] W0, w' = x.1) (fun w' => Mod [] W0 w') (by kernel_rfl) (by kernel_rfl) (fun _ h => InGW.of (h.mono (by simp))) (Mod.refl _ _).drew ?_
    refine stage_quiet 9 (by kernel_rfl) ?_
    simp only [List.take_succ_cons, List.take_zero, List.drop_succ_cons, List.drop_zero]
    repeat (go_big_quiet_step (fail))
    refine wpQuiet_nil ?_
    refine stage_del (fun w' => Mod [a] W0 w' ∧ ∃ bs', MapIs w' a bs' ∧ bs'.Perm (without bs (yo, yh))) rfl rfl rfl rfl (fun w' h => ?_) (fun _ h => InGW.of h.1) ?_
    · obtain ⟨w4, bs', hr, hM, hmd, hsz, hp⟩ := del_b (h1M.out.mod h (by simp)) hnod.out (yo, yh) _
      exact ⟨w4, hr, (h.mono (by simp)).trans hmd, bs', hM, hp⟩
    simp only [Act.put]
    refine stage_nil fun W1 hm1 => ?_
    obtain ⟨hm1, bs1, hM1, hp1⟩ := hm1
    have hmAA := Lib.hid hm1
    have h2b := Lib.hid (hm1.at h1b.out (by simpa using hab.out.symm))
    have h2y := Lib.hid (hm1.at h1y.out (by simpa using Nat.ne_of_gt hay))
    have h2c := Lib.hid (hm1.at h1c.out (by simpa using hac.out.symm))
    have h2M := Lib.hid hM1
    have hp1H := Lib.hid hp1
    have h2m := Lib.hid (h1m.out.then hm1 (fun x hx => .inl (by simp at hx; simp [hx])))
    clear q1 q2 hm1 hM1 hp1 hmAA h1b h1y h1c h1m h1M
    go_wp2_with fail
    have q1 := GW.cells (S := []) h2b.out (by simp)
    have q2 := GW.cells (S := []) h2y.out (by simp)
    have q3 : ∀ x : GW [] W1, (Instr.lookup 53 (.map (some c)) (.int .i64 yo) false).run Try.prog x.1 = .ok (.int .i64 n) x.1 := fun x => by
      rw [run_lookup_int Try.underlying53 Try.underlying3 Try.zeroValue3 (x.2.at h2c.out (by simp)) hCAH.out.1, hlkH.out]
    refine wp_region_stage (fun w' => ∃ x : GW [] W1, w' = x.1) (fun w' => Mod [] W1 w') (by kernel_rfl) (by kernel_rfl) (fun _ h => InGW.of h) (Mod.refl _ _).drew ?_
    refine stage_quiet 8 (by kernel_rfl) ?_
    simp only [List.take_succ_cons, List.take_zero, List.drop_succ_cons, List.drop_zero]
    repeat (go_big_quiet_step (fail))
    refine wpQuiet_nil ?_
    refine stage_putLast (fun w' => Mod [c] W1 w' ∧ w'.heap[c]? = some (.map (mput yo (.int .i64 (n - 1)) ck es).1 (mput yo (.int .i64 (n - 1)) ck es).2)) rfl rfl (by kernel_rfl) rfl rfl rfl rfl (fun w' h => ?_) ?_
    · obtain ⟨w4, hr, h4, hmd, _⟩ := upd_any (o := yo) (n := n - 1) (h.at h2c.out (by simp)) hCAH.out.1
      exact ⟨w4, hr, (h.mono (by simp)).trans hmd, h4⟩
    rintro W2 ⟨hm2, hc2⟩
    have h3b := Lib.hid (hm2.at h2b.out (by simpa using hcb.out.symm))
    have h3y := Lib.hid (hm2.at h2y.out (by simpa using Nat.ne_of_gt hcy))
    have h3c := Lib.hid hc2
    have h3M := Lib.hid (h2M.out.mod hm2 (by simpa using hac.out))
    have h3m := Lib.hid (h2m.out.then hm2 (fun x hx => .inl (by simp at hx; simp [hx])))
    have hk3 := mput_spec yo (.int .i64 (n - 1)) ck es hCAH.out.1
    have hk3H := Lib.hid hk3
    clear q1 q2 q3 hm2 hc2 h2b h2y h2c h2m h2M hk3
    go_wp2_with fail
    have q1 := GW.cells (S := []) h3b.out (by simp)
    have q2 := GW.cells (S := []) h3y.out (by simp)
    have q3 : ∀ x : GW [] W2, (Instr.lookup 53 (.map (some c)) (.int .i64 yo) false).run Try.prog x.1 = .ok (.int .i64 (n - 1)) x.1 := fun x => by
      rw [run_lookup_int Try.underlying53 Try.underlying3 Try.zeroValue3 (x.2.at h3c.out (by simp)) hk3H.out.1, hk3H.out.2, if_pos rfl]
      rfl
    by_cases h1 : n = 1
    · subst h1
      refine wp_region_pure (by kernel_rfl) (by kernel_rfl) ?_
      refine stage_quiet 8 (by kernel_rfl) ?_
      simp only [List.take_succ_cons, List.take_zero, List.drop_succ_cons, List.drop_zero]
      repeat (go_big_quiet_step (fail))
      refine wpQuiet_nil ?_
      refine stage_nil fun W3 hm3 => ?_
      have h4b := Lib.hid (hm3.at h3b.out (by simp))
      have h4y := Lib.hid (hm3.at h3y.out (by simp))
      have h4c := Lib.hid (hm3.at h3c.out (by simp))
      have h4M := Lib.hid (h3M.out.mod hm3 (by simp))
      have h4m := Lib.hid (h3m.out.nil_then hm3)
      clear q1 q2 q3 hm3 h3b h3y h3c h3m h3M
      go_wp2_with fail
      have q1 := GW.cells (S := [c]) h4b.out (by simpa using hcb.out.symm)
      have q2 := GW.cells (S := [c]) h4y.out (by simpa using Nat.ne_of_gt hcy)
      refine wp_region_stage (fun w' => ∃ x : GW [c] W3, w' = x.1) (fun w' => Mod [] W3 w') (by kernel_rfl) (by kernel_rfl) (fun _ h => InGW.of (h.mono (by simp))) (Mod.refl _ _).drew ?_
      refine stage_quiet 6 (by kernel_rfl) ?_
      simp only [List.take_succ_cons, List.take_zero, List.drop_succ_cons, List.drop_zero]
      repeat (go_big_quiet_step (fail))
      refine wpQuiet_nil ?_
      refine stage_del (fun w' => Mod [c] W3 w' ∧ w'.heap[c]? = some (.map (mdel yo (mput yo (.int .i64 (1 - 1)) ck es).1) (mput yo (.int .i64 (1 - 1)) ck es).2)) rfl rfl rfl rfl (fun w' h => ?_) (fun _ h => InGW.of h.1) ?_
      · obtain ⟨w4, hr, h4, hmd⟩ := del_any (o := yo) _ (h.at h4c.out (by simp)) hk3H.out.1
        exact ⟨w4, hr, (h.mono (by simp)).trans hmd, h4⟩
      simp only [Act.put]
      refine stage_nil fun W4 hm4 => ?_
      obtain ⟨hm4, hc4⟩ := hm4
      have hbF := Lib.hid (hm4.at h4b.out (by simpa using hcb.out.symm))
      have hMF := Lib.hid (h4M.out.mod hm4 (by simpa using hac.out))
      have hmFF := Lib.hid (h4m.out.then hm4 (fun x hx => .inl (by simp at hx; simp [hx])))
      have hcF := Lib.hid hc4
      clear q1 q2 hm4 hc4
      go_wp2_with fail
      go_end0
      have hcnt := hCAH.out.last (o := yo) hse.out ck (.int .i64 (1 - 1)) (by have := hnH.out; omega)
      refine ⟨[b, a, c], rfl, LedAt.of hbF.out hab.out hcb.out hac.out hMF.out (hp1H.out.trans (hpH.out.filter _)) (hcnt.is hcF.out), hmFF.out, fun x hx => .inl hx⟩
    · have z : (n - 1 == 0) = false := by simp; omega
      refine wp_region_pure (by kernel_rfl) (by kernel_rfl) ?_
      refine stage_quiet 8 (by kernel_rfl) ?_
      simp only [List.take_succ_cons, List.take_zero, List.drop_succ_cons, List.drop_zero]
      repeat (go_big_quiet_step (fail))
      refine wpQuiet_nil ?_
      refine stage_nil fun W3 hm3 => ?_
      have hbF := Lib.hid (hm3.at h3b.out (by simp))
      have hcF := Lib.hid (hm3.at h3c.out (by simp))
      have hMF := Lib.hid (h3M.out.mod hm3 (by simp))
      have hmFF := Lib.hid (h3m.out.nil_then hm3)
      clear q1 q2 q3 hm3
      go_wp2_with fail
      go_end0
      have hcnt := hCAH.out.less (o := yo) hse.out ck (n := n - 1) (by have := hnH.out; omega) (by omega)
      refine ⟨[b, a, c], rfl, LedAt.of hbF.out hab.out hcb.out hac.out hMF.out (hp1H.out.trans (hpH.out.filter _)) (hcnt.is hcF.out), hmFF.out, fun x hx => .inl hx⟩
end Go.Proofs.Ytappkiiihnaegaa
