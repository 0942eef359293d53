/- The quota meter: the functions that change it. -/
import Derived.Test.YtbjjeacdgbppoaaQuota
namespace Go.Proofs.Ytbjjeacdgbppoaa
open Go Go.RowKit Go.Stg

theorem New_any (l : Q) (w : World) (hl : l.i64) :
    Calls Try.prog 8 #[.agg #[.int .i64 l.b, .int .i64 l.o, .int .i64 l.r]] w fun e w' => ∃ b, e = .returned (.pointer (some ⟨b, 0, none⟩)) ∧ Mod [] w w' ∧ w.heap.size ≤ b ∧ MeterAt w' b none l (fun _ => Q.zero) := by
  go_enter Try.func8, Try.ntmps8
  go_wp2
  go_ret
  refine ⟨w.heap.size + 1, rfl, ((Mod.refl _ _).alloc _).alloc _, by omega, hl, fun _ => by simp [Q.zero, Q.pos], ?_, fun _ => rfl, by simp⟩
  have := at_alloc (w.alloc (Obj.cells #[Value.int IntKind.i64 l.b, Value.int IntKind.i64 l.o, Value.int IntKind.i64 l.r] 24 (0, 0))) (Obj.cells #[.int .i64 l.b, .int .i64 l.o, .int .i64 l.r, .map none] 47 (0, 0))
  simpa using this

theorem Add_nil (p : Int) (q : Q) (w : World) :
    Calls Try.prog 9 #[.pointer none, .int .i64 p, .agg #[.int .i64 q.b, .int .i64 q.o, .int .i64 q.r]] w fun e w' => e = .returned (.int .i64 1) ∧ Mod [] w w' := by
  go_enter Try.func9, Try.ntmps9
  go_wp2_with (go_at_call 15; refine (Fits_nil p q _).mono ?_; rintro e w1 ⟨rfl, hm1⟩)
  all_goals go_ret
  all_goals exact ⟨rfl, (((Mod.refl _ _).alloc _).nil_then hm1)⟩

theorem Add_no (p : Int) (q l : Q) (b : Nat) (mo : Option Nat) (f : Int → Q) (w : World) (hM : MeterAt w b mo l f) (h : fitsE l (f p) q ≠ 0) :
    Calls Try.prog 9 #[.pointer (some ⟨b, 0, none⟩), .int .i64 p, .agg #[.int .i64 q.b, .int .i64 q.o, .int .i64 q.r]] w fun e w' => e = .returned (.int .i64 (fitsE l (f p) q)) ∧ Mod [] w w' := by
  have hM1 := hM.mod ((Mod.refl [] w).alloc (.cells #[.int .i64 q.b, .int .i64 q.o, .int .i64 q.r] 24 (0, 0))) (by simp)
  have hF := Fits_any p q l b mo f _ hM1
  obtain ⟨n, hn⟩ : ∃ n, fitsE l (f p) q = n := ⟨_, rfl⟩
  rw [hn] at hF h ⊢
  have hne : (n == 0) = false := by simpa using h
  have hne' : (n != 0) = true := by simpa using h
  have HF := Lib.hid hF
  clear hF hM1 hM hn
  go_enter Try.func9, Try.ntmps9
  go_wp2_with (go_at_call 15; refine HF.out.mono ?_; rintro e w1 ⟨rfl, hm1⟩)
  all_goals go_ret
  all_goals exact ⟨rfl, (((Mod.refl _ _).alloc _).nil_then hm1)⟩

theorem fitsE_zero {l x q : Q} (h : fitsE l x q = 0) (hx : x.pos) (hl : l.i64) : (x.add q).pos ∧ q.pos := by
  unfold fitsE at h
  split at h
  · cases h
  · rename_i hn
    split at h
    · rename_i hf
      obtain ⟨h1, h2, h3⟩ := hf
      simp only [fitsB, Bool.and_eq_true, decide_eq_true_eq] at h1 h2 h3
      simp only [negB, Bool.or_eq_true, decide_eq_true_eq] at hn
      obtain ⟨⟨a1, a2⟩, ⟨b1, b2⟩, c1, c2⟩ := hx
      obtain ⟨⟨d1, d2⟩, ⟨e1, e2⟩, g1, g2⟩ := hl
      simp only [Q.pos, Q.add]
      omega
    · cases h

theorem MapAt.put {w : World} {bm : Nat} {es : Array MapEntry} {c c' : Nat} {f : Int → Q} {p : Int} {v : Q} (hb : w.heap[bm]? = some (.map (mput p (qv v) c es).1 c')) (hk : IKeys es.toList) (hg : ∀ k, (mget k es.toList).getD (qv Q.zero) = qv (f k)) :
    MapAt w (some bm) (upd f p v) := by
  obtain ⟨h1, h2⟩ := mput_spec p (qv v) c es hk
  refine ⟨_, _, hb, h1, fun k => ?_⟩
  rw [h2 k]
  unfold upd
  split
  · rfl
  · exact hg k

theorem upd_pos {f : Int → Q} {p : Int} {v : Q} (hf : ∀ k, (f k).pos) (hv : v.pos) : ∀ k, (upd f p v k).pos := by
  intro k; unfold upd; split
  · exact hv
  · exact hf k

/-- Behind a call that changed what a plugin has: the value, the meter. -/
def Changed (v : Value) (b : Nat) (mo : Option Nat) (l : Q) (f : Int → Q) (w : World) (e : Ending) (w' : World) : Prop :=
  ∃ mo', e = .returned v ∧ Mod (b :: mo.toList) w w' ∧ MeterAt w' b mo' l f ∧ ∀ x, mo' = some x → mo = some x ∨ w.heap.size ≤ x

set_option maxHeartbeats 1000000 in
theorem Add_yes (p : Int) (q l : Q) (b : Nat) (mo : Option Nat) (f : Int → Q) (w : World) (hM : MeterAt w b mo l f) (h : fitsE l (f p) q = 0) :
    Calls Try.prog 9 #[.pointer (some ⟨b, 0, none⟩), .int .i64 p, .agg #[.int .i64 q.b, .int .i64 q.o, .int .i64 q.r]] w (Changed (.int .i64 0) b mo l (upd f p ((f p).add q)) w) := by
  have hM1 := hM.mod ((Mod.refl [] w).alloc (.cells #[.int .i64 q.b, .int .i64 q.o, .int .i64 q.r] 24 (0, 0))) (by simp)
  have hF := Fits_any p q l b mo f _ hM1
  rw [h] at hF
  have HF := Lib.hid hF
  have hpos := fitsE_zero h (hM.has p) hM.lim
  have hx := hM.has p
  obtain ⟨hap, ⟨q1, q2⟩, ⟨q3, q4⟩, q5, q6⟩ := hpos
  obtain ⟨⟨x1, x2⟩, ⟨x3, x4⟩, x5, x6⟩ := hx
  have hp' := upd_pos (p := p) hM.has hap
  clear hF h hM1
  obtain ⟨hl, hf, hb, hmap, hne⟩ := hM
  have hlb := lt_of hb
  have hnil : ∀ w, (binOp .eql 45 (.map mo) (.map none)).run Try.prog w = .ok (.bool mo.isNone) w := fun w => run_eql_map_nil w _ _ _ mo Try.underlying45
  cases mo with
  | none =>
    simp only [Option.isNone_none] at hnil
    have hmm := fun w => run_makeMap (P := Try.prog) 45 w
    go_enter Try.func9, Try.ntmps9
    go_wp2_with fail
    refine HF.out.mono ?_
    rintro e w1 ⟨rfl, hm1⟩
    have hb1 := hm1.at (at_alloc_old hb) (by simp)
    have hq1 := hm1.at (at_alloc w _) (by simp)
    have hlt := lt_of hb1
    have hsz := hm1.size
    simp only [World.size_alloc] at hsz
    have hcb := cells_of hb1
    have hfb := frozen_of hb1
    have hcq := cells_of hq1
    have hwm : ((w1.setCell ⟨b, 3, none⟩ (.map (some w1.heap.size))).alloc (.map #[] 0)).heap[w1.heap.size]? = some (.map #[] 0) := by
      have := at_alloc (w1.setCell ⟨b, 3, none⟩ (.map (some w1.heap.size))) (.map #[] 0)
      simpa [World.setCell] using this
    have hwb := at_alloc_old (o := .map #[] 0) (at_setCell (o := 3) (v := .map (some w1.heap.size)) hb1)
    have hwq := at_alloc_old (o := .map #[] 0) (at_setCell_other (a := ⟨b, 3, none⟩) (v := .map (some w1.heap.size)) hq1 (by simp; omega))
    have hm2 : Mod [b] w ((w1.setCell ⟨b, 3, none⟩ (.map (some w1.heap.size))).alloc (.map #[] 0)) := ((((Mod.refl [b] w).alloc _).nil_then hm1).setCell (.inl (by simp)) _).alloc _
    have hlk : (Instr.lookup 45 (.map (some w1.heap.size)) (.int .i64 p) false).run Try.prog ((w1.setCell ⟨b, 3, none⟩ (.map (some w1.heap.size))).alloc (.map #[] 0)) = .ok (.agg #[.int .i64 0, .int .i64 0, .int .i64 0]) ((w1.setCell ⟨b, 3, none⟩ (.map (some w1.heap.size))).alloc (.map #[] 0)) :=
      run_lookup_int (z := qv Q.zero) Try.underlying45 Try.underlying3 (fun w => Try.zeroValue24 w) hwm trivial p
    go_wp2_with fail
    have hWm := at_alloc_old (o := .cells #[.int .i64 0, .int .i64 0, .int .i64 0] 24 (0, 0)) hwm
    have hWb := at_alloc_old (o := .cells #[.int .i64 0, .int .i64 0, .int .i64 0] 24 (0, 0)) hwb
    have hWq := at_alloc_old (o := .cells #[.int .i64 0, .int .i64 0, .int .i64 0] 24 (0, 0)) hwq
    have hWx : _ = some _ := at_alloc ((w1.setCell ⟨b, 3, none⟩ (.map (some w1.heap.size))).alloc (.map #[] 0)) (.cells #[.int .i64 0, .int .i64 0, .int .i64 0] 24 (0, 0))
    have hs : ((w1.setCell ⟨b, 3, none⟩ (.map (some w1.heap.size))).alloc (.map #[] 0)).heap.size = w1.heap.size + 1 := by simp [World.setCell]
    have hm3 := hm2.alloc (.cells #[.int .i64 0, .int .i64 0, .int .i64 0] 24 (0, 0))
    rw [hs] at hWx
    clear hs hwm hwb hwq hm2 hlk hcb hfb hcq
    generalize ((w1.setCell ⟨b, 3, none⟩ (.map (some w1.heap.size))).alloc (.map #[] 0)).alloc (.cells #[.int .i64 0, .int .i64 0, .int .i64 0] 24 (0, 0)) = W at *
    have hes : IKeys (#[] : Array MapEntry).toList := trivial
    have hk1 := GW.cells (S := [w1.heap.size]) hWb (by simp; omega)
    have hk2 := GW.cells (S := [w1.heap.size]) hWq (by simp; omega)
    have hk3 := GW.cells (S := [w1.heap.size]) hWx (by simp <;> omega)
    refine wp_region_stage (fun w' => ∃ x : GW [w1.heap.size] W, w' = x.1) (fun w' => Mod [] W w') (by kernel_rfl) (by kernel_rfl) (fun _ h => InGW.of (h.mono (by simp))) (Mod.refl _ _).drew ?_
    refine stage_quiet 21 (by kernel_rfl) ?_
    simp only [List.take_succ_cons, List.take_zero, List.drop_succ_cons, List.drop_zero]
    repeat (go_big_quiet_step (fail))
    refine wpQuiet_nil ?_
    refine stage_mapUpdate w1.heap.size #[] 0 p (qv (Q.zero.add q)) (fun w' => Mod [w1.heap.size] W w' ∧ w'.heap[w1.heap.size]? = some (.map (mput p (qv (Q.zero.add q)) 0 #[]).1 (mput p (qv (Q.zero.add q)) 0 #[]).2)) rfl Try.underlying45 Try.underlying3 rfl rfl rfl (by first | rfl | simp [go_sem, qv, Q.add, Q.zero]) hes (fun w' h => h.at hWm (by simp)) (fun w' h => ⟨(h.mono (by simp)).setMap (.inl (by simp)) _, at_setMap (h.at hWm (by simp))⟩) (fun w' h => InGW.of h.1) ?_
    simp only [Act.put]
    refine stage_nil fun w2 hm2 => ?_
    go_wp2
    go_ret
    have hfp : f p = Q.zero := hmap p
    rw [hfp]
    refine ⟨some w1.heap.size, rfl, hm3.then hm2.1 (by simp; omega), ⟨hl, by rw [← hfp]; exact hp', hm2.1.at hWb (by simp; omega), MapAt.put hm2.2 hes (fun k => by rw [hmap k]; rfl), by simp; omega⟩, ?_⟩
    intro x hx
    obtain rfl := Option.some.inj hx
    exact .inr (by omega)
  | some bm =>
    obtain ⟨es, c, hbm, hes, hg⟩ := hmap
    have hnb : b ≠ bm := fun e => hne (by rw [e])
    have hlbm := lt_of hbm
    simp only [Option.isNone_some] at hnil
    go_enter Try.func9, Try.ntmps9
    go_wp2_with fail
    refine HF.out.mono ?_
    rintro e w1 ⟨rfl, hm1⟩
    have hb1 := hm1.at (at_alloc_old hb) (by simp)
    have hq1 := hm1.at (at_alloc w _) (by simp)
    have hbm1 := hm1.at (at_alloc_old hbm) (by simp)
    have hltm := lt_of hbm1
    have hlt := lt_of hb1
    have hsz := hm1.size
    simp only [World.size_alloc] at hsz
    have hcb := cells_of hb1
    have hcq := cells_of hq1
    have hlk : (Instr.lookup 45 (.map (some bm)) (.int .i64 p) false).run Try.prog w1 = .ok (.agg #[.int .i64 (f p).b, .int .i64 (f p).o, .int .i64 (f p).r]) w1 := by
      rw [run_lookup_int (z := qv Q.zero) Try.underlying45 Try.underlying3 (fun w => Try.zeroValue24 w) hbm1 hes p, hg p]; rfl
    obtain ⟨⟨a1, a2⟩, ⟨a3, a4⟩, a5, a6⟩ := hap
    simp only [Q.add] at a1 a2 a3 a4 a5 a6
    go_wp2_with fail
    have hWm := at_alloc_old (o := .cells #[.int .i64 (f p).b, .int .i64 (f p).o, .int .i64 (f p).r] 24 (0, 0)) hbm1
    have hWb := at_alloc_old (o := .cells #[.int .i64 (f p).b, .int .i64 (f p).o, .int .i64 (f p).r] 24 (0, 0)) hb1
    have hWq := at_alloc_old (o := .cells #[.int .i64 (f p).b, .int .i64 (f p).o, .int .i64 (f p).r] 24 (0, 0)) hq1
    have hWx := at_alloc w1 (.cells #[.int .i64 (f p).b, .int .i64 (f p).o, .int .i64 (f p).r] 24 (0, 0))
    have hm3 := (((Mod.refl [b, bm] w).alloc _).nil_then hm1).alloc (.cells #[.int .i64 (f p).b, .int .i64 (f p).o, .int .i64 (f p).r] 24 (0, 0))
    clear hlk hcb hcq
    generalize w1.alloc (.cells #[.int .i64 (f p).b, .int .i64 (f p).o, .int .i64 (f p).r] 24 (0, 0)) = W at *
    have hk1 := GW.cells (S := [bm]) hWb (by simp; omega)
    have hk2 := GW.cells (S := [bm]) hWq (by simp; omega)
    have hk3 := GW.cells (S := [bm]) hWx (by simp <;> omega)
    refine wp_region_stage (fun w' => ∃ x : GW [bm] W, w' = x.1) (fun w' => Mod [] W w') (by kernel_rfl) (by kernel_rfl) (fun _ h => InGW.of (h.mono (by simp))) (Mod.refl _ _).drew ?_
    refine stage_quiet 21 (by kernel_rfl) ?_
    simp only [List.take_succ_cons, List.take_zero, List.drop_succ_cons, List.drop_zero]
    repeat (go_big_quiet_step (fail))
    refine wpQuiet_nil ?_
    refine stage_mapUpdate bm es c p (qv ((f p).add q)) (fun w' => Mod [bm] W w' ∧ w'.heap[bm]? = some (.map (mput p (qv ((f p).add q)) c es).1 (mput p (qv ((f p).add q)) c es).2)) rfl Try.underlying45 Try.underlying3 rfl rfl rfl (by first | rfl | simp [go_sem, qv, Q.add, Q.zero]) hes (fun w' h => h.at hWm (by simp)) (fun w' h => ⟨(h.mono (by simp)).setMap (.inl (by simp)) _, at_setMap (h.at hWm (by simp))⟩) (fun w' h => InGW.of h.1) ?_
    simp only [Act.put]
    refine stage_nil fun w2 hm2 => ?_
    go_wp2
    go_ret
    refine ⟨some bm, rfl, hm3.then hm2.1 (by simp), ⟨hl, hp', hm2.1.at hWb (by simp; omega), MapAt.put hm2.2 hes hg, hne⟩, ?_⟩
    intro x hx
    exact .inl hx
end Go.Proofs.Ytbjjeacdgbppoaa
