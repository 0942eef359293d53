/- Handle tables: the law's list of a table's entries. -/
import Derived.Test.YtcdmapllligjhaaTabAll
namespace Go.Proofs.Ytcdmapllligjhaa
open Go Go.RowKit Go.Stg
attribute [local go_sem] Oper.semAt_some

def lastS (pre : List (Int × Ent)) : Int := match pre.getLast? with
  | some p => p.1
  | none => -1
theorem lastS_snoc (pre : List (Int × Ent)) (p : Int × Ent) : lastS (pre ++ [p]) = p.1 := by simp [lastS]
theorem liveP_mem {x : TS} {k : Nat} {p : Int × Ent} (h : p ∈ liveP x k) : ∃ j : Nat, j < k ∧ p = ((j : Int), entN x.E j) ∧ (slotN x.g.S j).2 = true := by
  unfold liveP at h
  obtain ⟨j, hj, e⟩ := List.mem_filterMap.1 h
  rw [List.mem_range] at hj
  cases hl : (slotN x.g.S j).2 with
  | false => rw [hl] at e; simp at e
  | true => rw [hl] at e; simp at e; exact ⟨j, hj, e.symm, hl⟩
theorem liveP_asc (x : TS) : ∀ k, (liveP x k).Pairwise (fun a b => a.1 < b.1)
  | 0 => List.Pairwise.nil
  | k + 1 => by
    cases h : (slotN x.g.S k).2 with
    | false => rw [liveP_dead h]; exact liveP_asc x k
    | true =>
      rw [liveP_live h, List.pairwise_append]
      refine ⟨liveP_asc x k, by simp, fun a ha b hb => ?_⟩
      obtain ⟨j, hj, rfl, _⟩ := liveP_mem ha
      rw [List.mem_singleton.1 hb]
      show (j : Int) < k
      omega
theorem listed_law {x : TS} {n : Nat} {first : Int} (hI : TInv n first x) (hn : n ≤ 4096) (hf1 : 1 ≤ first) {pre : List (Int × Ent)} {p : Int × Ent} (h : pre ++ [p] <+: liveP x n) : lastS pre < p.1 ∧ p.1 = hSlot p.2.h ∧ 0 ≤ p.2.h ∧ p.2.h ≤ 18446744073709551615 := by
  have hp : p ∈ liveP x n := h.subset (by simp)
  obtain ⟨j, hj, rfl, hl⟩ := liveP_mem hp
  have ha := List.pairwise_append.1 ((liveP_asc x n).sublist h.sublist)
  obtain ⟨⟨t1, t2⟩, hh⟩ := hI.ok j hj hl
  have hg : 1 ≤ (slotN x.g.S j).1 ∧ (slotN x.g.S j).1 ≤ 4294967295 := by
    rcases hI.g.gens j hj with e | e
    · rw [e] at hl; cases hl
    · omega
  refine ⟨?_, ?_, ?_, ?_⟩
  · unfold lastS
    cases hlast : pre.getLast? with
    | none => show (-1 : Int) < j; omega
    | some q => exact ha.2.2 q (List.mem_of_getLast? hlast) _ (by simp)
  · show (j : Int) = hSlot (entN x.E j).h
    rw [hh, hSlot_pack (by omega)]
  · show 0 ≤ (entN x.E j).h
    rw [hh]; unfold packI; omega
  · show (entN x.E j).h ≤ _
    rw [hh]; unfold packI; omega
theorem rslot_any (h : Int) (w : World) : Calls Try.prog 14 #[.int .u64 h] w fun e w' => (∃ v : Int, e = .returned (.int .i64 v) ∧ (0 ≤ h → h ≤ 18446744073709551615 → v = hSlot h)) ∧ Mod [] w w' := by
  by_cases hb : 0 ≤ h ∧ h ≤ 18446744073709551615
  · exact (rslot_ok h hb.1 hb.2 w).mono fun e w' ⟨he, hm⟩ => ⟨⟨_, he, fun _ _ => rfl⟩, hm⟩
  · have hno : ∀ v : Int, (0 ≤ h → h ≤ 18446744073709551615 → v = hSlot h) := fun v h0 h1 => absurd ⟨h0, h1⟩ hb
    have hnoH := Lib.hid hno
    clear hb hno
    go_enter Try.func14, Try.ntmps14
    go_wp2_with fail
    go_ret
    exact ⟨⟨_, rfl, hnoH.out _⟩, Mod.refl _ _⟩
set_option maxRecDepth 100000 in
set_option maxHeartbeats 8000000 in
theorem listed_ok {n : Nat} {first : Int} {x : TS} (hI : TInv n first x) (hn : n ≤ 4096) (hf1 : 1 ≤ first) {w : World} {tb b pb : Nat} {ev sl : Value} {f : List Nat} (hT : (tabC tb ev b pb sl first x).on w f) :
    Calls Try.prog 24 #[.pointer (some ⟨tb, 0, none⟩)] w fun e w' => ∃ v, e = .returned v ∧ w'.ownsRow 0 39 5 v (liveP x n).length (flat pent (liveP x n)) ∧ Mod [] w w' := by
  obtain ⟨i5, hi5, hz0, hz1, hz2⟩ := info_parts info_entry
  have hlaw := Lib.hid fun pre p h => listed_law hI hn hf1 (pre := pre) (p := p) h
  refine (callsIn_wide (n := 5)).1 ?_
  refine callsIn_of_wp_marks Try.func24 rfl trivial ?_ rfl
  simp only [Try.ntmps24, List.size_toArray, List.length_cons, List.length_nil, Nat.reduceAdd, Nat.reduceSub, Array.replicate_succ, Array.replicate_zero, List.push_toArray, List.append_toArray, List.nil_append, List.cons_append]
  gi_wp2_with fail
  refine ⟨trivial, (callsIn_wide.2 (TAll_made (some ⟨tb, 0, none⟩) _)).mono ?_⟩
  rintro e w4 ⟨rfl, rfl⟩
  gi_wp2_with fail
  have hm0 : Mod [] w ((((w.alloc (.cells #[.slice none 0 0] 29)).alloc (.cells #[.slice none 0 0] 29)).alloc (.cells #[.int .i64 (-1)] 3)).alloc (.cells #[.pointer (some ⟨tb, 0, none⟩)] 23)) := ((((Mod.refl [] w).alloc _).alloc _).alloc _).alloc _
  have z1 : (w.alloc (.cells #[.slice none 0 0] 29)).heap.size = w.heap.size + 1 := by simp
  have z2 : ((w.alloc (.cells #[.slice none 0 0] 29)).alloc (.cells #[.slice none 0 0] 29)).heap.size = w.heap.size + 1 + 1 := by simp
  have z3 : (((w.alloc (.cells #[.slice none 0 0] 29)).alloc (.cells #[.slice none 0 0] 29)).alloc (.cells #[.int .i64 (-1)] 3)).heap.size = w.heap.size + 1 + 1 + 1 := by simp
  have b0 : Boxed _ w.heap.size 29 (.slice none 0 0) := at_alloc_old (o := .cells #[.pointer (some ⟨tb, 0, none⟩)] 23) (at_alloc_old (o := .cells #[.int .i64 (-1)] 3) (at_alloc_old (o := .cells #[.slice none 0 0] 29) (at_alloc w (.cells #[.slice none 0 0] 29))))
  have b1 : Boxed _ (w.heap.size + 1) 29 (.slice none 0 0) := z1 ▸ at_alloc_old (o := .cells #[.pointer (some ⟨tb, 0, none⟩)] 23) (at_alloc_old (o := .cells #[.int .i64 (-1)] 3) (at_alloc (w.alloc (.cells #[.slice none 0 0] 29)) (.cells #[.slice none 0 0] 29)))
  have b2 : Boxed _ (w.heap.size + 1 + 1) 3 (.int .i64 (-1)) := z2 ▸ at_alloc_old (o := .cells #[.pointer (some ⟨tb, 0, none⟩)] 23) (at_alloc ((w.alloc (.cells #[.slice none 0 0] 29)).alloc (.cells #[.slice none 0 0] 29)) (.cells #[.int .i64 (-1)] 3))
  have b3 := at_alloc (((w.alloc (.cells #[.slice none 0 0] 29)).alloc (.cells #[.slice none 0 0] 29)).alloc (.cells #[.int .i64 (-1)] 3)) (.cells #[.pointer (some ⟨tb, 0, none⟩)] 23)
  rw [z3] at b3
  have z4 : ((((w.alloc (.cells #[.slice none 0 0] 29)).alloc (.cells #[.slice none 0 0] 29)).alloc (.cells #[.int .i64 (-1)] 3)).alloc (.cells #[.pointer (some ⟨tb, 0, none⟩)] 23)).heap.size = w.heap.size + 4 := by simp
  have hT0 := (tabC tb ev b pb sl first x).keep hT hm0 (by simp)
  have hB0 := hm0.below
  have hm0H := Lib.hid hm0
  clear z1 z2 z3 hT hm0
  generalize (((w.alloc (.cells #[.slice none 0 0] 29)).alloc (.cells #[.slice none 0 0] 29)).alloc (.cells #[.int .i64 (-1)] 3)).alloc (.cells #[.pointer (some ⟨tb, 0, none⟩)] 23) = W0 at *
  generalize hq : w.heap.size = q at *
  have hst := TAll_stops 4 (by omega) (q + 1 + 1 + 1) W0.heap.size (Apart1 (q + 1)) hI hn W0 b3 (by omega) hT0 (fun W W2 k h1 h2 hk v hv => by
    have e1 : W2.cell? ⟨q + 1, 0, none⟩ = some (.slice none 0 0) := by
      rw [World.cell?_of_block (a := ⟨q + 1, 0, none⟩) (h2.block _ (Nat.lt_of_lt_of_le (by show q + 1 < W0.heap.size; omega) h1.size)), World.cell?_of_block (a := ⟨q + 1, 0, none⟩) (h1.block _ (by show q + 1 < W0.heap.size; omega))]
      exact b1.cell
    rw [e1] at hv
    cases hv
    simp [Value.ownBlock])
  refine wpIn_rangeFunc_ownH rfl (by omega) (gf := 58) (lb := #[.pointer (some ⟨q + 1 + 1 + 1, 0, none⟩)]) rfl trivial (enters_of Try.func58 (by kernel_rfl) rfl) hst keeps_t
    (keeps_b (apart1_put (by omega))) (RowKit.Below.refl _ _) (fun _ => rfl)
    (fun (pre : List (Int × Ent)) W => (∃ v, Boxed W (q + 1) 29 v ∧ W.ownsRow q 39 5 v pre.length (flat pent pre) ∧ True) ∧ (Boxed W (q + 1 + 1) 3 (.int .i64 (lastS pre)) ∧ (Boxed W q 29 (.slice none 0 0) ∧ RowKit.Below q w W))) (fun _ xs _ => ¬ xs <+: liveP x n)
    (OwnFrom.and (Own.from (holdsRow_own q (q + 1) 29 39 5 (fun (pre : List (Int × Ent)) => pre.length) (fun (pre : List (Int × Ent)) => flat pent pre) (fun _ _ => True)) _) (OwnFrom.and (Own.from (boxed_own (q + 1 + 1) 3 (fun (pre : List (Int × Ent)) => .int .i64 (lastS pre))) _) (OwnFrom.and (Own.from (boxed_own q 29 (fun (_ : List (Int × Ent)) => .slice none 0 0)) _) (ownFrom_below (by omega) (by omega)))))
    (fun _ => ownFrom_pure _ _) ⟨⟨_, b1, World.ownsRow_nil _ _ _ _, trivial⟩, b2, b0, hB0⟩
    (fun (p : Int × Ent) a' W => ∃ r, a' = { tmps := #[.pointer (some ⟨tb, 0, none⟩), undef, .pointer (some ⟨q, 0, none⟩), .pointer (some ⟨q + 1, 0, none⟩), .pointer (some ⟨q + 1 + 1, 0, none⟩), .int .i64 p.1, .pointer (some ⟨r, 0, none⟩), .pointer (some ⟨tb, 0, none⟩), .func (.func 58) #[] #[.pointer (some ⟨q + 1 + 1 + 1, 0, none⟩)], .int .i64 p.1, entV p.2, undef, undef, undef, undef, undef, undef, undef, undef, undef, undef, undef, undef, undef, undef, undef, undef], defers := [] } ∧ W.heap[r]? = some (.cells #[.int .u64 p.2.h, .int .i64 p.2.owner, .int .i64 p.2.tag, .int .i64 p.2.off, .int .i64 p.2.len] 39 (0, 0)) ∧ q + 3 ≤ r)
    (fun p a' => ?hax) ?assign ?body ?done ?stop
  case hax =>
    rintro _ X Y row ⟨r, e, hr, hB⟩ hg hrow
    exact ⟨r, e, (hg.block r (lt_of hr) (fun e' => by obtain ⟨_, o, ho, hc⟩ := hrow r e'.symm; rw [hr] at ho; cases ho; cases hc)).trans hr, hB⟩
  case assign =>
    rintro l pre ⟨ps, eh, eo, et, ef, el⟩ W K ⟨⟨v, hv, hrow, -⟩, hv2, hv0, hB⟩ hK
    have hKH := Lib.hid hK
    clear hK
    unfold entV
    gi_wp2_with fail
    have hb := at_alloc W (.cells #[.int .u64 eh, .int .i64 eo, .int .i64 et, .int .i64 ef, .int .i64 el] 39 (0, 0))
    refine hKH.out _ _ ((KeepsOthers.alloc W _).from _) ⟨by simp, fun k cs T fr hk ha hck => ⟨at_alloc_old hck, fun u hu => ha u ?_⟩⟩ ⟨⟨v, hv.alloc _, hrow.alloc _, trivial⟩, hv2.alloc _, hv0.alloc _, hB.trans ((RowKit.Below.refl q W).alloc (by have := hv0.lt; omega) _)⟩ ⟨W.heap.size, rfl, hb, ?_⟩
    · rw [(hv.alloc _).cell] at hu
      rw [hv.cell]; exact hu
    · have := hv2.lt; omega
  case body =>
    rintro l pre ⟨ps, eh, eo, et, ef, el⟩ a' W hl ⟨r0, hr0⟩ ⟨⟨v, hv, hrow, -⟩, hv2, hv0, hB⟩ ⟨r, rfl, hr, hrB⟩ hlen
    simp only at hr
    have hpn := liveP_len x n
    have hc1 := hv.cell
    have hc2 := hv2.cell
    have hc0 := hv0.cell
    have hf0 := hv0.frozen
    have hcr := cells_of hr
    have hla := Lib.hid (hlaw.out pre (ps, ⟨eh, eo, et, ef, el⟩))
    have hvH := Lib.hid hv
    have hv2H := Lib.hid hv2
    have hv0H := Lib.hid hv0
    have hBH := Lib.hid hB
    have hrH := Lib.hid hr
    have hrowH := Lib.hid hrow
    have hqW := hv2.lt
    clear hst hT0 b0 b1 b2 b3 hB0 hm0H hlaw hv hv2 hv0 hB hr hrow hr0
    by_cases c1 : ps ≤ lastS pre
    · gi_wp2_with fail
      refine ⟨trivial, ?_⟩
      gi_wp2_with fail
      refine ⟨(KeepsOthers.setCell W _ _).from _, fun h => ?_⟩
      have h1 : lastS pre < ps := (hla.out h).1
      omega
    · gi_wp2_with fail
      refine ⟨trivial, (callsIn_wide.2 (rslot_any eh _)).mono ?_⟩
      rintro e w5 ⟨⟨vv, rfl, hvv⟩, hm5⟩
      have hvvH := Lib.hid hvv
      have hv5 : Boxed w5 (q + 1) 29 v := hm5.at hvH.out (by simp)
      have hv25 : Boxed w5 (q + 1 + 1) 3 (.int .i64 (lastS pre)) := hm5.at hv2H.out (by simp)
      have hv05 : Boxed w5 q 29 (.slice none 0 0) := hm5.at hv0H.out (by simp)
      have hr5 := hm5.at hrH.out (by simp)
      have hrow5 := row_mod hrowH.out hm5 (by simp)
      have hko : KeepsOthers W w5 := ⟨hm5.size, fun k o hk _ => hm5.at hk (by simp)⟩
      clear hc1 hc2 hc0 hf0 hcr hvv
      by_cases c2 : ps = vv
      · subst c2
        have hc25 := hv25.cell
        have hf25 := hv25.frozen
        have hne2 := hv25.not_row (by decide) hrow5
        have hv1 : Boxed (w5.setCell ⟨q + 1 + 1, 0, none⟩ (.int .i64 ps)) (q + 1) 29 v := hv5.other (by omega) _
        have hv21 := hv25.set (.int .i64 ps)
        have hv01 : Boxed (w5.setCell ⟨q + 1 + 1, 0, none⟩ (.int .i64 ps)) q 29 (.slice none 0 0) := hv05.other (by omega) _
        have hm1 := (Mod.refl [q + 1 + 1] w5).setCell (p := ⟨q + 1 + 1, 0, none⟩) (.inl (by simp)) (.int .i64 ps)
        have hrow1 := row_mod hrow5 hm1 (fun g hg hgm => hne2 (by rw [hg, List.mem_singleton.1 hgm]))
        have hr1 := hm1.at hr5 (by simp; omega)
        have hko1 := hko.trans (KeepsOthers.setCell w5 ⟨q + 1 + 1, 0, none⟩ (.int .i64 ps))
        have hsz : (w5.setCell ⟨q + 1 + 1, 0, none⟩ (.int .i64 ps)).heap.size = w5.heap.size := by simp
        have hq5 : q + 1 + 1 < w5.heap.size := hv25.lt
        have hc1 := hv1.cell
        have hcr := cells_of hr1
        have hnw := cellsE (w5.setCell ⟨q + 1 + 1, 0, none⟩ (.int .i64 ps)) (ent ⟨eh, eo, et, ef, el⟩) 39 #[.int .u64 eh, .int .i64 eo, .int .i64 et, .int .i64 ef, .int .i64 el] rfl
        rw [hsz] at hnw
        have hnwH := Lib.hid hnw
        have hv1H := Lib.hid hv1
        have hv21H := Lib.hid hv21
        have hv01H := Lib.hid hv01
        have hrow1H := Lib.hid hrow1
        have hm1H := Lib.hid hm1
        have hm5H := Lib.hid hm5
        have hko1H := Lib.hid hko1
        have hb1 : pre.length + 1 ≤ maxLen := by unfold maxLen; omega
        have hb2 : (pre.length + 1) * 40 ≤ 140737488355328 := by omega
        clear hv5 hv25 hv05 hr5 hrow5 hko hne2 hv1 hv21 hv01 hm1 hrow1 hr1 hko1 hsz hnw hm5 hvvH hla
        gi_wp2_with (gi_at_builtin; refine wpListIn_append_row _ rfl _ _ 29 rfl q 39 i5 (entV ent0) 5 40 Try.underlying29 hi5 hz0 hz1 hz2 rfl (by decide) v pre.length _ rfl (hrow1H.out.alloc _) ⟨w5.heap.size, 0, none⟩ 1 1 (ent ⟨eh, eo, et, ef, el⟩) rfl rfl hnwH.out (by simp [ent, Value.oneCell']) hb1 hb2 (by simp; omega) ?_; intro v' w7 hown' hgrow hfr; obtain ⟨g7, c7, rfl⟩ := ownsRow_succ hown'; obtain ⟨k1, k2, k3, k4, k5⟩ := hv1H.out.appended (by decide) hrow1H.out (by simp; omega) (by omega) hown' hgrow; have hk1c := k1.cell; have hk1f := k1.frozen; have hgrowH := Lib.hid hgrow; have hfrH := Lib.hid hfr; have k1H := Lib.hid k1; have k2H := Lib.hid k2; have k3H := Lib.hid k3; have k4H := Lib.hid k4; have k5H := Lib.hid k5; clear k1 k2 k3 k4 k5 hgrow hfr)
        have hlt7 : ∀ k, W0.heap.size ≤ k → k ≠ q + 1 + 1 ∧ k ≠ q + 1 := fun k h => by omega
        refine ⟨(hko1H.out.trans k4H.out).from _, ⟨(hko1H.out.trans k4H.out).size, fun k cs T fr hk ha hck => ⟨?_, fun u hu => ?_⟩⟩, ⟨_, k2H.out, ?_, trivial⟩, ?_, ?_, ?_⟩
        · have h1 := hm5H.out.at hck (by simp)
          have h2 := hm1H.out.at h1 (by simpa using (hlt7 k hk).1)
          have h3 := at_alloc_old (o := .cells #[.int .u64 eh, .int .i64 eo, .int .i64 et, .int .i64 ef, .int .i64 el] 39 (0, 0)) h2
          have h4 := (hgrowH.out.block k (lt_of h3) (fun e => ha v hvH.out.cell e.symm)).trans h3
          exact at_setCell_other h4 (hlt7 k hk).2
        · rw [k2H.out.cell] at hu
          cases hu
          intro e
          rcases hfrH.out k e with h | h
          · exact ha v hvH.out.cell h
          · have h1 := lt_of hck
            have h2 := hm5H.out.size
            simp at h
            omega
        · rw [List.length_append, flat_append, flat_one]
          exact k3H.out
        · rw [lastS_snoc]
          exact ((hv21H.out.alloc _).kept hgrowH.out (hv21H.out.not_row (by decide) hrow1H.out)).other (by omega) _
        · exact ((hv01H.out.alloc _).kept hgrowH.out (hv01H.out.not_row (by decide) hrow1H.out)).other (by omega) _
        · exact hBH.out.trans (((hm5H.out.below.mono (by omega)).trans ((RowKit.Below.refl q w5).setCell (p := ⟨q + 1 + 1, 0, none⟩) (by show q ≤ q + 1 + 1; omega) _)).trans k5H.out)
      · have c3 : (ps == vv) = false := by simp only [beq_eq_false_iff_ne]; exact c2
        have hc0 := hv05.cell
        have hf0 := hv05.frozen
        have hcon : ¬ pre ++ [(ps, (⟨eh, eo, et, ef, el⟩ : Ent))] <+: liveP x n := fun h => by
          obtain ⟨_, h2, h3, h4⟩ := hla.out h
          have h2 : ps = hSlot eh := h2
          exact c2 (by rw [h2, hvvH.out h3 h4])
        have hconH := Lib.hid hcon
        have hkoH := Lib.hid (hko.trans (KeepsOthers.setCell w5 ⟨q, 0, none⟩ (.slice none 0 0)))
        clear hcon hko hv5 hv25 hv05 hr5 hrow5 c2
        gi_wp2_with fail
        exact ⟨hkoH.out.from _, hconH.out⟩
  case done =>
    rintro D ys W hD rfl ⟨⟨v, hv, hrow, -⟩, hv2, hv0, hB⟩ hK
    have hc := hv.cell
    have hc0 := hv0.cell
    have hf0 := hv0.frozen
    obtain ⟨va, vl, vc, rfl⟩ : ∃ a l c, v = .slice a l c := by
      rcases row_cases hrow with ⟨rfl, _⟩ | ⟨_, _, rfl, _⟩ <;> exact ⟨_, _, _, rfl⟩
    have hrowH := Lib.hid hrow
    have hBH := Lib.hid hB
    have hv0H := Lib.hid hv0
    have hne := hv0.not_row (by decide) hrow
    have hneH := Lib.hid hne
    clear hne hrow hB hv0 hst hT0 b0 b1 b2 b3 hB0
    gi_wp2_with fail
    have hK2 := at_setCell_other (a := ⟨q, 0, none⟩) (v := .slice va vl vc) hK (by show D ≠ q; omega)
    refine ⟨by simp, .inl ⟨_, _, rfl, run_takeDeferred hK2, ?_⟩⟩
    have hv3 := (hv0H.out.set (.slice va vl vc))
    have hr3 := row_mod hrowH.out ((Mod.refl [q] W).setCell (p := ⟨q, 0, none⟩) (.inl (by simp)) (.slice va vl vc)) (fun g hg hgm => hneH.out (by rw [hg, List.mem_singleton.1 hgm]))
    have hr4 := ownsRow_putObj hr3 (.deferred none) hK2 rfl
    have hB4 := (hBH.out.trans ((RowKit.Below.refl q W).setCell (p := ⟨q, 0, none⟩) (Nat.le_refl _) (.slice va vl vc))).trans (belowK_b (w := w) (by omega) (W.setCell ⟨q, 0, none⟩ (.slice va vl vc)) D _ (.deferred none) (by omega) hK2 rfl rfl)
    have hv4 := (hv3.kept (grownBy_putObj' _ D (.deferred none)) (by intro e; have := Option.some.inj e; omega)).cell
    clear hv3 hr3 hK2
    generalize (W.setCell ⟨q, 0, none⟩ (.slice va vl vc)).putObj D (.deferred none) = W2 at *
    refine ⟨.slice va vl vc, ?_, _, rfl, row_base hr4 (Nat.zero_le _), Mod.of_below (by rw [hq]; exact hB4)⟩
    clear hr4 hB4 hneH hv0H hBH hrowH
    simp [results, Try.results24, asAddr, go_sem, hv4]
  case stop =>
    rintro D c pre W _ hp h _
    exact absurd hp h
end Go.Proofs.Ytcdmapllligjhaa
