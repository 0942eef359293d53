/- Borrows: find. -/
import Derived.Test.YtappkiiihnaegaaBVals
import Derived.Test.YtappkiiihnaegaaBCmp
import Derived.Test.YtappkiiihnaegaaBLay
import Derived.Test.YtappkiiihnaegaaBRow
namespace Go.Proofs.Ytappkiiihnaegaa
open Go Go.RowKit Go.Stg Go.Sort Go.Proofs
attribute [local go_sem] Oper.semAt_some

/-- The sort of a row of borrows with different keys. -/
theorem sort_ok {w : World} {base : Nat} {v : Value} {L : List Bor} (h : w.ownsRow base 25 4 v L.length (flat bcell L)) (hn : (L.map (·.1)).Nodup) (hl : L.length ≤ 1000000) :
    Calls Try.prog 42 #[v, .func (.func 43) #[] #[]] w fun e w' => e = .returned (.tuple #[]) ∧ ∃ L', Srt L' ∧ L'.Perm L ∧ w'.ownsRow base 25 4 v L.length (flat bcell L') ∧ Mod v.ownBlock.toList w w' := by
  rcases row_cases h with ⟨rfl, h0, _⟩ | ⟨g, cap, rfl, _, hg, _⟩
  · have hL : L = [] := List.eq_nil_of_length_eq_zero h0
    subst hL
    have hcon := AnyF.slices_SortFunc_none sortL none 0 (.func (.func 43) #[] #[]) w
    change Calls Try.prog 42 _ _ _ at hcon
    exact hcon.mono fun e w' ⟨he, hw⟩ => ⟨he, [], List.Pairwise.nil, List.Perm.refl _, by rw [hw]; exact h, by rw [hw]; exact Mod.refl _ _⟩
  · have eg : ∀ args w, (callFunc 43 args).run Try.prog w = .ok (.enter 43 args) w := enters_of Try.func43 (by kernel_rfl) rfl
    have hcon := AnyQ.slices_SortFunc sortL 4 Try.isAgg25 Try.sizeOf25 bcell bcell_length (fun x v hv => by simp [bcell] at hv; rcases hv with rfl | rfl | rfl | rfl <;> rfl) cf swo_cf 43 #[] g 0 cap L.toArray w eg (cmp_lays g 0 L.toArray.size w) (holds_own h rfl) hg (by simp; omega)
    change Calls Try.prog 42 _ _ _ at hcon
    simp only [List.size_toArray] at hcon
    refine hcon.mono fun e w' ⟨he, d', n, os, hp, hs, hw⟩ => ⟨he, d'.toList, ?_⟩
    obtain ⟨s1, s2, s3⟩ := sorted_srt (d := L.toArray) (d' := d') (by simpa using hn) (by simpa using hp) (by simpa using hs)
    obtain ⟨o1, o2⟩ := own_sorted h d' (by simpa using s3) n os
    exact ⟨s1, by simpa using s2, by rw [hw]; exact o1, by rw [hw]; exact o2⟩
/-- A closure that judges a borrow. -/
def Judges (w : World) (g : Nat) (lb : Array Value) (p : Bor → Bool) : Prop := ∀ x W, Mod [] w W → Calls Try.prog g (#[bv x] ++ lb) W fun e W' => e = .returned (.bool (p x)) ∧ Mod [] W W'
theorem KeepsOthers.walks {A B : World} (h : KeepsOthers A B) : KeepsWalks A B := ⟨h.size, fun k o hk ho => h.same k o hk (Obj.not_cells_of_walk ho)⟩
theorem Mod.others {A B : World} (h : Mod [] A B) : KeepsOthers A B := ⟨h.size, fun _ _ hk _ => h.at hk (by simp)⟩
theorem kpV_b {n₀ B : Nat} (hn : n₀ ≤ B) (W : World) (l : Nat) (o o' : Obj) (hl : B ≤ l) (h : W.heap[l]? = some o) (_ : o.isCells = false) (hw : o.isWalk = false) : KpV n₀ W (W.putObj l o') := by
  refine ⟨⟨rfl, rfl, rfl, by simp [World.putObj], fun k hk => World.putObj_heap_other (by omega)⟩, ⟨by simp [World.putObj], fun k u hk hu => ?_⟩⟩
  by_cases e : k = l
  · subst e
    rw [h] at hk; cases hk
    rw [hw] at hu; cases hu
  · exact (World.putObj_heap_other (by omega)).trans hk
set_option maxRecDepth 100000 in
set_option maxHeartbeats 8000000 in
theorem find_ok {w : World} {b : Nat} {m1 m2 : Value} {bs L : List Bor} (hb : w.heap[b]? = some (.cells #[m1, m2] 55 (0, 0))) (hM : MapV w m1 bs) (hp : bs.Perm L) (hS : Srt L) (hlen : L.length ≤ 1000000) {g : Nat} {lb : Array Value} {p : Bor → Bool}
    (hJ : Judges w g lb p) (eg : ∀ args w, (callFunc g args).run Try.prog w = .ok (.enter g args) w) :
    Calls Try.prog 32 #[.pointer (some ⟨b, 0, none⟩), .func (.func g) #[] lb] w fun e w' => ∃ v, e = .returned v ∧ w'.ownsRow w.heap.size 25 4 v (L.filter p).length (flat bcell (L.filter p)) ∧ Mod [] w w' := by
  obtain ⟨i5, hi5, hz0, hz1, hz2⟩ := info_parts info_bor
  have hbl := hp.length_eq
  have hfin : ∀ ys L' : List Bor, ys.Perm bs → Srt L' → L'.Perm (ys.filter p) → L' = L.filter p := fun ys L' h1 h2 h3 => h2.unique (hS.filter p) (h3.trans ((h1.trans hp).filter p))
  have hnod : ∀ ys : List Bor, ys.Perm bs → ((ys.filter p).map (·.1)).Nodup := fun ys h1 => by
    have h2 := (((h1.trans hp).filter p).map (·.1)).nodup_iff
    exact h2.2 (hS.filter p).nodup
  have hfinH := Lib.hid hfin
  have hnodH := Lib.hid hnod
  have hJH := Lib.hid hJ
  have hMlt := Lib.hid hM.lt
  have hMH := Lib.hid fun w' (h : Mod [] w w') => hM.keep (w' := w') fun mb hmb => h.block mb (hMlt.out mb hmb) (by simp)
  have hmv : ∃ m, m1 = .map m := by rcases hM with ⟨rfl, _⟩ | ⟨mb, rfl, _⟩ <;> exact ⟨_, rfl⟩
  obtain ⟨m, rfl⟩ := hmv
  have hbH := Lib.hid (cells_of hb)
  have hfr := frozen_of hb
  clear hfin hnod hJ hM hp hS
  refine (callsIn_wide (n := 5)).1 ?_
  refine callsIn_of_wp_marks Try.func32 rfl trivial ?_ rfl
  simp only [Try.ntmps32, List.size_toArray, List.length_cons, List.length_nil, Nat.reduceAdd, Nat.reduceSub, Array.replicate_succ, Array.replicate_zero, List.push_toArray, List.append_toArray, List.nil_append, List.cons_append]
  have hm0 := ((Mod.refl [] w).alloc (.cells #[.func (.func g) #[] lb] 61)).alloc (.cells #[.slice none 0 0] 36)
  have hcb := cells_of (hm0.at hb (by simp))
  gi_wp2_with fail
  refine ⟨trivial, (callsIn_wide.2 (values_made (.map m) ⟨_, rfl⟩ _)).mono ?_⟩
  rintro e w4 ⟨rfl, rfl⟩
  gi_wp2_with fail
  have hm1 := hm0.alloc (.cells #[.map m] 52)
  have z1 : (w.alloc (.cells #[.func (.func g) #[] lb] 61)).heap.size = w.heap.size + 1 := by simp
  have z2 : ((w.alloc (.cells #[.func (.func g) #[] lb] 61)).alloc (.cells #[.slice none 0 0] 36)).heap.size = w.heap.size + 2 := by simp
  have b0 : Boxed _ w.heap.size 61 (.func (.func g) #[] lb) := at_alloc_old (o := .cells #[.map m] 52) (at_alloc_old (o := .cells #[.slice none 0 0] 36) (at_alloc w (.cells #[.func (.func g) #[] lb] 61)))
  have b1 : Boxed _ (w.heap.size + 1) 36 (.slice none 0 0) := z1 ▸ at_alloc_old (o := .cells #[.map m] 52) (at_alloc (w.alloc (.cells #[.func (.func g) #[] lb] 61)) (.cells #[.slice none 0 0] 36))
  have b2 := at_alloc ((w.alloc (.cells #[.func (.func g) #[] lb] 61)).alloc (.cells #[.slice none 0 0] 36)) (.cells #[.map m] 52)
  rw [z2] at b2
  have z3 : (((w.alloc (.cells #[.func (.func g) #[] lb] 61)).alloc (.cells #[.slice none 0 0] 36)).alloc (.cells #[.map m] 52)).heap.size = w.heap.size + 3 := by simp
  have hMW := hMH.out _ hm1
  have hB0 := hm1.below
  clear z1 z2 hm0 hm1 hcb hb hMH hfr hbH
  generalize ((w.alloc (.cells #[.func (.func g) #[] lb] 61)).alloc (.cells #[.slice none 0 0] 36)).alloc (.cells #[.map m] 52) = W0 at *
  generalize hq : w.heap.size = q at *
  have hst := values_says 4 (by omega) (q + 2) q W0 (by omega) hMW hMlt.out b2
  refine wpIn_rangeFunc_at rfl (by omega) (gf := 48) (lb := #[.pointer (some ⟨q + 2, 0, none⟩)]) rfl trivial (enters_of Try.func48 (by kernel_rfl) rfl) hst (RowKit.Below.refl _ _) (fun _ => rfl)
    (fun h k => ⟨h.1.trans k.1, h.2.trans k.2⟩) (fun W l o o' hl => kpV_b (by omega) W l o o' hl)
    (fun (pre : List Bor) W => (∃ v, Boxed W (q + 1) 36 v ∧ W.ownsRow q 25 4 v (pre.filter p).length (flat bcell (pre.filter p)) ∧ True) ∧ (Boxed W q 61 (.func (.func g) #[] lb) ∧ RowKit.Below q w W)) (fun _ _ _ => False)
    (OwnFrom.and (Own.from (holdsRow_own q (q + 1) 36 25 4 (fun (pre : List Bor) => (pre.filter p).length) (fun (pre : List Bor) => flat bcell (pre.filter p)) (fun _ _ => True)) _) (OwnFrom.and (Own.from (boxed_own q 61 (fun (_ : List Bor) => .func (.func g) #[] lb)) _) (ownFrom_below (by omega) (by omega))))
    (fun _ => ownFrom_pure _ _) ⟨⟨_, b1, World.ownsRow_nil _ _ _ _, trivial⟩, b0, hB0⟩
    (fun T x r => (T.setIfInBounds 14 (bv x)).setIfInBounds 6 (.pointer (some ⟨r, 0, none⟩)))
    (fun _ x r W => W.heap[r]? = some (.cells #[.int .i64 x.1.1, .int .i64 x.1.2, .int .i64 x.2.1, .int .i64 x.2.2] 25 (0, 0)))
    ?hax ?assign ?body ?done ?stop
  case hax =>
    rintro pre x r _ A B row h1 hg hr
    exact (hg.block r (lt_of h1) (fun e' => by obtain ⟨_, o, ho, hc⟩ := hr r e'.symm; rw [h1] at ho; cases ho; cases hc)).trans h1
  case assign =>
    rintro l pre ⟨⟨xo, xh⟩, xm, xc⟩ W K ⟨⟨v, hv, hrow, -⟩, hv0, hB⟩ - hK
    have hKH := Lib.hid hK
    clear hK hst
    unfold bv
    gi_wp2_with fail
    have hbx := at_alloc W (.cells #[.int .i64 xo, .int .i64 xh, .int .i64 xm, .int .i64 xc] 25 (0, 0))
    have hqW := hv0.lt
    have hBW := (RowKit.Below.refl q W).alloc (by omega) (.cells #[.int .i64 xo, .int .i64 xh, .int .i64 xm, .int .i64 xc] 25 (0, 0))
    exact hKH.out W.heap.size _ ((KeepsOthers.alloc W _).from _) ⟨hBW, KeepsWalks.alloc W _⟩ ⟨⟨v, hv.alloc _, hrow.alloc _, trivial⟩, hv0.alloc _, hB.trans hBW⟩ hbx
  case body =>
    rintro l pre ⟨⟨xo, xh⟩, xm, xc⟩ r W ⟨⟨v, hv, hrow, -⟩, hv0, hB⟩ hr hlen
    simp only at hr
    have hmW : Mod [] w W := Mod.of_below (by rw [hq]; exact hB)
    have hJx := hJH.out ((xo, xh), xm, xc) W hmW
    have hpl : (pre.filter p).length ≤ pre.length := List.length_filter_le _ _
    have hc1 := hv.cell
    have hc0 := hv0.cell
    have hcr := cells_of hr
    have hvH := Lib.hid hv
    have hv0H := Lib.hid hv0
    have hBH := Lib.hid hB
    have hrH := Lib.hid hr
    have hrowH := Lib.hid hrow
    have hqW := hv.lt
    unfold bv at hJx
    unfold bv
    clear hst b0 b1 b2 hB0 hv hv0 hB hr hrow hMW
    gi_wp2_with fail
    refine ⟨trivial, (callsIn_wide.2 hJx).mono ?_⟩
    rintro e w5 ⟨rfl, hm5⟩
    have hv5 : Boxed w5 (q + 1) 36 v := hm5.at hvH.out (by simp)
    have hv05 : Boxed w5 q 61 (.func (.func g) #[] lb) := hm5.at hv0H.out (by simp)
    have hr5 := hm5.at hrH.out (by simp)
    have hrow5 := row_mod hrowH.out hm5 (by simp)
    have hko := Mod.others hm5
    have hq5 : q + 1 < w5.heap.size := hv5.lt
    have hB5 := hBH.out.trans (hm5.below.mono (by omega))
    have hkB5 := Lib.hid (hm5.below.mono (show q ≤ W.heap.size by omega))
    have hkoH := Lib.hid hko
    have hB5H := Lib.hid hB5
    clear hc1 hc0 hcr hJx hm5 hB5 hko
    cases hpx : p ((xo, xh), xm, xc) with
    | false =>
      have hfl : (pre ++ [((xo, xh), xm, xc)]).filter p = pre.filter p := by rw [List.filter_append]; simp [hpx]
      have hflH := Lib.hid hfl
      have hv5H := Lib.hid hv5
      have hv05H := Lib.hid hv05
      have hrow5H := Lib.hid hrow5
      clear hfl hpx hv5 hv05 hrow5 hr5
      gi_wp2_with fail
      refine ⟨hkoH.out.from _, ⟨hkB5.out, hkoH.out.walks⟩, ⟨v, hv5H.out, ?_, trivial⟩, hv05H.out, hB5H.out⟩
      rw [hflH.out]; exact hrow5H.out
    | true =>
      have hfl : (pre ++ [((xo, xh), xm, xc)]).filter p = pre.filter p ++ [((xo, xh), xm, xc)] := by rw [List.filter_append]; simp [hpx]
      have hflH := Lib.hid hfl
      have hnw := cellsE w5 (bcell ((xo, xh), xm, xc)) 25 #[.int .i64 xo, .int .i64 xh, .int .i64 xm, .int .i64 xc] rfl
      have hnwH := Lib.hid hnw
      have hc1 := hv5.cell
      have hcr := cells_of hr5
      have hb1 : (pre.filter p).length + 1 ≤ maxLen := by unfold maxLen; omega
      have hb2 : ((pre.filter p).length + 1) * 32 ≤ 140737488355328 := by omega
      have hv5H := Lib.hid hv5
      have hv05H := Lib.hid hv05
      have hrow5H := Lib.hid hrow5
      clear hfl hpx hv5 hv05 hrow5 hr5 hnw
      gi_wp2_with (gi_at_builtin; refine wpListIn_append_row _ rfl _ _ 36 rfl q 25 i5 (bv b0) 4 32 Try.underlying36 hi5 hz0 hz1 hz2 rfl (by decide) v (pre.filter p).length _ rfl (hrow5H.out.alloc _) ⟨w5.heap.size, 0, none⟩ 1 1 (bcell ((xo, xh), xm, xc)) rfl rfl hnwH.out (by simp [bcell, Value.oneCell']) hb1 hb2 (by simp; omega) ?_; intro v' w7 hown' hgrow hfr; obtain ⟨g7, c7, rfl⟩ := ownsRow_succ hown'; obtain ⟨k1, k2, k3, k4, k5⟩ := hv5H.out.appended (by decide) hrow5H.out (by omega) (by omega) hown' hgrow; have hk1c := k1.cell; have hk1f := k1.frozen; have hgrowH := Lib.hid hgrow; have k2H := Lib.hid k2; have k3H := Lib.hid k3; have k4H := Lib.hid k4; have k5H := Lib.hid k5; clear k1 k2 k3 k4 k5 hgrow hfr)
      refine ⟨(hkoH.out.trans k4H.out).from _, ⟨hkB5.out.trans k5H.out, (hkoH.out.trans k4H.out).walks⟩, ⟨_, k2H.out, ?_, trivial⟩, ?_, hB5H.out.trans k5H.out⟩
      · rw [hflH.out, List.length_append, flat_append, flat_one]
        exact k3H.out
      · exact ((hv05H.out.alloc _).kept hgrowH.out (hv05H.out.not_row (by decide) hrow5H.out)).other (by omega) _
  case done =>
    rintro D ys W hD hys ⟨⟨v, hv, hrow, -⟩, hv0, hB⟩ hK
    have hc := hv.cell
    have hcf := hv.frozen
    obtain ⟨va, vl, vc, rfl⟩ : ∃ a l c, v = .slice a l c := by
      rcases row_cases hrow with ⟨rfl, _⟩ | ⟨_, _, rfl, _⟩ <;> exact ⟨_, _, _, rfl⟩
    have hsort := sort_ok hrow (hnodH.out ys hys) (by have h1 := hys.length_eq; have h2 := List.length_filter_le p ys; omega)
    have hne := hv.not_row (by decide) hrow
    have hneH := Lib.hid hne
    have hvH := Lib.hid hv
    have hBH := Lib.hid hB
    have hrowH := Lib.hid hrow
    clear hst hMW b0 b1 b2 hB0 hv hrow hv0 hB hne
    gi_wp2_with fail
    refine ⟨trivial, (callsIn_wide.2 hsort).mono ?_⟩
    rintro e w5 ⟨rfl, L', hs1, hs2, hr5, hm5⟩
    have hL' := hfinH.out ys L' hys hs1 hs2
    subst hL'
    have hv5 : Boxed w5 (q + 1) 36 (.slice va vl vc) := hm5.at hvH.out (by have := hneH.out; simpa using fun e => this e.symm)
    have hK5 := hm5.at hK (by
      intro hx
      rcases row_cases hrowH.out with ⟨e', _, _⟩ | ⟨g', cap', e', _, _⟩
      · cases e'; simp [Value.ownBlock] at hx
      · cases e'
        simp [Value.ownBlock] at hx
        have h6 := hrowH.out.2
        rcases h6 with ⟨h6, _⟩ | ⟨g2, c2, cur, h6, _, h7, _⟩
        · cases h6
        · cases h6
          rw [← hx, hK] at h7
          cases h7)
    have hB5 := hBH.out.trans (show RowKit.Below q W w5 from ⟨hm5.os, hm5.tape, hm5.output, hm5.size, fun k hk => hm5.block k (Nat.lt_of_lt_of_le hk (by rw [← hq]; exact hBH.out.size)) (by
      intro hx
      rcases row_cases hrowH.out with ⟨e', _, _⟩ | ⟨g', cap', e', hg', _⟩
      · cases e'; simp [Value.ownBlock] at hx
      · cases e'
        simp [Value.ownBlock] at hx
        omega)⟩)
    have hc5 := hv5.cell
    have hlen5 : (L.filter p).length = (ys.filter p).length := hs2.length_eq
    rw [← hlen5] at hr5
    have hr5H := Lib.hid hr5
    have hB5H := Lib.hid hB5
    clear hc hcf hneH hrowH hm5 hr5 hB5 hs1 hs2 hK hvH hsort
    gi_wp2_with fail
    refine ⟨by simp, .inl ⟨_, _, rfl, run_takeDeferred hK5, ?_⟩⟩
    have hr4 := ownsRow_putObj hr5H.out (.deferred none) hK5 rfl
    have hB4 := hB5H.out.trans (belowK_b (w := w) (by omega) w5 D _ (.deferred none) (by omega) hK5 rfl rfl)
    refine ⟨.slice va vl vc, ?_, _, rfl, by rw [hq]; exact hr4, Mod.of_below (by rw [hq]; exact hB4)⟩
    simp [results, Try.results32, asAddr, go_sem]
  case stop =>
    rintro D c pre W _ hp h _
    exact absurd h (by simp)
end Go.Proofs.Ytappkiiihnaegaa
