/- HandletabNone: nil and zero tables; the walk of the law. -/
import Derived.Test.YtcdmapllligjhaaTabListed
import Derived.Test.YtcdmapllligjhaaTabSteps
import Derived.Test.YtcdmapllligjhaaGenNone
namespace Go.Proofs.Ytcdmapllligjhaa
open Go Go.RowKit Go.Stg

/-- Tables that are nil, or zero. -/
def NulT (w : World) (p : Option Addr) : Prop := p = none ∨ ∃ b, p = some ⟨b, 0, none⟩ ∧ w.heap[b]? = some (.cells #[.pointer none, .slice none 0 0] 63 (0, 0))
theorem NulT.mod {w w' : World} {p : Option Addr} (h : NulT w p) (hm : Mod [] w w') : NulT w' p := by
  rcases h with h | ⟨b, h1, h2⟩
  · exact .inl h
  · exact .inr ⟨b, h1, hm.at h2 (by simp)⟩
section
variable {w : World} {p : Option Addr} (h : NulT w p)
include h
theorem nult_live : Calls Try.prog 30 #[.pointer p] w fun e w' => e = .returned (.pointer none) ∧ Mod [] w w' := by
  rcases h with rfl | ⟨b, rfl, hb⟩
  · go_enter Try.func30, Try.ntmps30
    go_wp2
    go_ret
    exact ⟨rfl, Mod.refl _ _⟩
  · have hcb := cells_of hb
    clear hb
    go_enter Try.func30, Try.ntmps30
    go_wp2
    go_ret
    exact ⟨rfl, Mod.refl _ _⟩
theorem nult_issue (o : Int) (ho : o = 1 ∨ o = 0) (d : Int) : Calls Try.prog 10 #[.pointer p, .int .i64 o, .int .i64 1, .agg #[.int .i64 0, .int .i64 0], .int .u64 d] w fun e w' => e = .returned (.tuple #[.int .u64 0, .int .i64 (if o = 1 then 17 else 1)]) ∧ Mod [] w w' := by
  have hmx := (Mod.refl [] w).alloc (.cells #[.int .i64 0, .int .i64 0] 33 (0, 0))
  have hL := Lib.hid fun w' hm => nult_live (h.mod (w' := w') hm)
  clear h
  rcases ho with rfl | rfl
  · go_enter Try.func10, Try.ntmps10
    go_wp2_with fail
    refine (isP_ok _ _).mono ?_
    rintro e w0 ⟨rfl, hm0⟩
    have hm0 := hmx.nil_then hm0
    go_wp2_with fail
    refine (hL.out _ hm0).mono ?_
    rintro e w1 ⟨rfl, hm1⟩
    have hm1 := hm0.nil_then hm1
    clear hm0
    go_wp2_with fail
    refine (nul_issue (.inl rfl) d).mono ?_
    rintro e w2 ⟨rfl, hm2⟩
    have hm2 := hm1.nil_then hm2
    clear hm1
    go_wp2_with fail
    go_ret2
    exact ⟨rfl, hm2⟩
  · go_enter Try.func10, Try.ntmps10
    go_wp2_with fail
    refine (isP_ok _ _).mono ?_
    rintro e w0 ⟨rfl, hm0⟩
    have hm0 := hmx.nil_then hm0
    go_wp2_with fail
    go_ret2
    exact ⟨rfl, hm0⟩
theorem nult_resolve (k : Int) (h0 : 0 ≤ k) (h1 : k ≤ 18446744073709551615) : Calls Try.prog 12 #[.pointer p, .int .u64 k] w fun e w' => e = .returned (.tuple #[.agg #[.int .u64 0, .int .i64 0, .int .i64 0, .int .i64 0, .int .i64 0], .int .i64 10]) ∧ Mod [] w w' := by
  have hm0 := (Mod.refl [] w).alloc (.cells #[.int .u64 0, .int .i64 0, .int .i64 0, .int .i64 0, .int .i64 0] 39 (0, 0))
  have hq0 := at_alloc w (.cells #[.int .u64 0, .int .i64 0, .int .i64 0, .int .i64 0, .int .i64 0] 39 (0, 0))
  have hL := Lib.hid fun w' hm => nult_live (h.mod (w' := w') hm)
  have hsl : 0 ≤ hSlot k := by unfold hSlot; omega
  have hqH := Lib.hid hq0
  clear h hq0
  go_enter Try.func12, Try.ntmps12
  go_wp2_with fail
  refine (slot_ok k h0 h1 _).mono ?_
  rintro e w1 ⟨rfl, hm1⟩
  have hq1 := Lib.hid (hm1.at hqH.out (by simp))
  have hm1 := hm0.nil_then hm1
  clear hm0 hqH
  go_wp2_with fail
  refine (hL.out _ hm1).mono ?_
  rintro e w2 ⟨rfl, hm2⟩
  have hq2 := Lib.hid (hm2.at hq1.out (by simp))
  have hm2 := hm1.nil_then hm2
  clear hm1 hq1
  go_wp2_with fail
  refine (nul_size (.inl rfl)).mono ?_
  rintro e w3 ⟨rfl, hm3⟩
  have hq3 := Lib.hid (hm3.at hq2.out (by simp))
  have hm4 := hm2.nil_then hm3
  clear hm2 hm3 hq2
  have hcq := cells_of hq3.out
  have hfq := frozen_of hq3.out
  go_wp2_with fail
  have hq5 := (at_setCell (o := 4) (v := .int .i64 0) (at_setCell (o := 3) (v := .int .i64 0) (at_setCell (o := 2) (v := .int .i64 0) (at_setCell (o := 1) (v := .int .i64 0) (at_setCell (o := 0) (v := .int .u64 0) (hq3.out))))))
  have hm5 := ((((((hm4).setCell (p := ⟨w.heap.size, 0, none⟩) (.inr (Nat.le_refl _)) (.int .u64 0)).setCell (p := ⟨w.heap.size, 1, none⟩) (.inr (Nat.le_refl _)) (.int .i64 0)).setCell (p := ⟨w.heap.size, 2, none⟩) (.inr (Nat.le_refl _)) (.int .i64 0)).setCell (p := ⟨w.heap.size, 3, none⟩) (.inr (Nat.le_refl _)) (.int .i64 0)).setCell (p := ⟨w.heap.size, 4, none⟩) (.inr (Nat.le_refl _)) (.int .i64 0))
  refine bodyPost_ret (ret_cell_tmp Try.results12 rfl rfl hq5 Try.underlying39 rfl (by kernel_rfl)) rfl ?_
  exact ⟨rfl, hm5⟩
theorem nult_drop (k : Int) (h0 : 0 ≤ k) (h1 : k ≤ 18446744073709551615) : Calls Try.prog 11 #[.pointer p, .int .u64 k] w fun e w' => e = .returned (.int .i64 10) ∧ Mod [] w w' := by
  have hR := Lib.hid (nult_resolve h k h0 h1)
  clear h
  go_enter Try.func11, Try.ntmps11
  go_wp2_with fail
  refine hR.out.mono ?_
  rintro e w1 ⟨rfl, hm1⟩
  have hm2 := hm1.alloc (.cells #[.int .u64 0, .int .i64 0, .int .i64 0, .int .i64 0, .int .i64 0] 39 (0, 0))
  go_wp2_with fail
  go_ret
  first | exact ⟨rfl, hm1⟩ | exact ⟨rfl, hm2⟩
theorem nult_give (k : Int) (h0 : 0 ≤ k) (h1 : k ≤ 18446744073709551615) (o : Int) : Calls Try.prog 15 #[.pointer p, .int .u64 k, .int .i64 o] w fun e w' => e = .returned (.int .i64 10) ∧ Mod [] w w' := by
  have hR := Lib.hid (nult_resolve h k h0 h1)
  clear h
  go_enter Try.func15, Try.ntmps15
  go_wp2_with fail
  refine hR.out.mono ?_
  rintro e w1 ⟨rfl, hm1⟩
  have hm2 := hm1.alloc (.cells #[.int .u64 0, .int .i64 0, .int .i64 0, .int .i64 0, .int .i64 0] 39 (0, 0))
  go_wp2_with fail
  go_ret
  first | exact ⟨rfl, hm1⟩ | exact ⟨rfl, hm2⟩
theorem nult_retired : Calls Try.prog 26 #[.pointer p] w fun e w' => e = .returned (.int .i64 0) ∧ Mod [] w w' := by
  have hL := Lib.hid (nult_live h)
  clear h
  go_enter Try.func26, Try.ntmps26
  go_wp2_with fail
  refine hL.out.mono ?_
  rintro e w1 ⟨rfl, hm1⟩
  go_wp2_with fail
  refine (nul_retired (.inl rfl)).mono ?_
  rintro e w2 ⟨rfl, hm2⟩
  go_wp2_with fail
  go_ret
  exact ⟨rfl, hm1.nil_then hm2⟩
theorem nult_pool : Calls Try.prog 27 #[.pointer p] w fun e w' => e = .returned (.slice none 0 0) ∧ Mod [] w w' := by
  have hL := Lib.hid (nult_live h)
  clear h
  go_enter Try.func27, Try.ntmps27
  go_wp2_with fail
  refine hL.out.mono ?_
  rintro e w1 ⟨rfl, hm1⟩
  go_wp2_with fail
  refine (nul_pool (.inl rfl)).mono ?_
  rintro e w2 ⟨rfl, hm2⟩
  go_wp2_with fail
  go_ret
  exact ⟨rfl, hm1.nil_then hm2⟩
theorem nult_full : Calls Try.prog 25 #[.pointer p] w fun e w' => e = .returned (.bool true) ∧ Mod [] w w' := by
  have hL := Lib.hid (nult_pool h)
  clear h
  go_enter Try.func25, Try.ntmps25
  go_wp2_with fail
  refine hL.out.mono ?_
  rintro e w1 ⟨rfl, hm1⟩
  go_wp2_with fail
  go_ret
  exact ⟨rfl, hm1⟩
end
section
attribute [local go_sem] Oper.semAt_some
set_option maxRecDepth 100000 in
theorem TAllC_nul (n' : Nat) (hn' : 1 ≤ n') (l Bs : Nat) {p : Option Addr} (J : List (Int × Ent) → World → Prop) (W : World) (hp : NulT W p) (hBs : W.heap[Bs]? = some (.cells #[.pointer p] 23 (0, 0))) (hJ : AbidesFrom W.heap.size J) (h0 : J [] W) :
    CallsIn Fence.wide n' Try.prog 58 #[.func (.yield l) #[] #[], .pointer (some ⟨Bs, 0, none⟩)] W fun e W' => (∃ v, e = .returned v) ∧ J [] W' := by
  have hpH := Lib.hid hp
  have hJH := Lib.hid hJ
  have h0H := Lib.hid h0
  have hcB := cells_of hBs
  clear hp hJ h0 hBs
  refine callsIn_of_wp Try.func58 rfl trivial ?_ rfl
  simp only [Try.ntmps58, List.size_toArray, List.length_cons, List.length_nil, Nat.reduceAdd, Nat.reduceSub, Array.replicate_succ, Array.replicate_zero, List.push_toArray, List.append_toArray, List.nil_append, List.cons_append]
  gi_wp2_with fail
  refine ⟨trivial, (callsIn_wide.2 (nult_live hpH.out)).mono ?_⟩
  rintro e w1 ⟨rfl, hm1⟩
  gi_wp2_with fail
  refine ⟨trivial, (callsIn_wide.2 (nul_size (.inl rfl))).mono ?_⟩
  rintro e w2 ⟨rfl, hm2⟩
  have hm2 := Lib.hid (hm1.nil_then hm2)
  clear hm1 hcB
  gi_wp2_with fail
  gi_loopw [13, 3, 4] (fun i sv lv wr => i = .int .i64 0 ∧ sv = .slice none 0 0 ∧ lv = .slice none 0 0 ∧ wr = w2) (fun _ _ _ _ => 0)
  case atStart => exact ⟨rfl, rfl, rfl, rfl⟩
  case round =>
    obtain ⟨rfl, rfl, rfl, rfl⟩ := hrel
    gi_wp2_with fail
    gi_loopw [43] (fun i wr2 => i = .int .i64 0 ∧ wr2 = wr) (fun _ _ => 0)
    case atStart => exact ⟨rfl, rfl⟩
    case round =>
      obtain ⟨rfl, rfl⟩ := hrel
      gi_wp2_with fail
      have hb := hm2.out.below
      have hJ1 := hJH.out _ _ _ none h0H.out ⟨hb.os, hb.tape, hb.output, hb.size, fun k hk _ => hb.block k hk⟩ (by simp)
      go_end0
      exact ⟨⟨_, rfl⟩, hJ1⟩
theorem TAll_stops_nul (n' : Nat) (hn' : 1 ≤ n') (Bs : Nat) {p : Option Addr} (Kp : World → World → Prop) (w : World) (hp : NulT w p) (hBs : w.heap[Bs]? = some (.cells #[.pointer p] 23 (0, 0))) :
    SeqStopsK Fence.wide n' Try.prog 58 #[.pointer (some ⟨Bs, 0, none⟩)] (fun p : Int × Ent => #[Value.int .i64 p.1, entV p.2]) Kp (fun ys => ys = []) (fun _ => False) 0 w := fun l J Jx W hW hJ _ hY h0 =>
  (TAllC_nul n' hn' l Bs J W (hp.mod (Mod.of_below hW)) ((Mod.of_below hW).at hBs (by simp)) hJ h0).mono fun e W' ⟨he, hj⟩ => ⟨he, .inl ⟨_, rfl, hj⟩⟩
set_option maxRecDepth 100000 in
set_option maxHeartbeats 8000000 in
theorem listed_nul {w : World} {p : Option Addr} (hp : NulT w p) : Calls Try.prog 24 #[.pointer p] w fun e w' => e = .returned (.slice none 0 0) ∧ Mod [] w w' := by
  refine (callsIn_wide (n := 5)).1 ?_
  refine callsIn_of_wp_marks Try.func24 rfl trivial ?_ rfl
  simp only [Try.ntmps24, List.size_toArray, List.length_cons, List.length_nil, Nat.reduceAdd, Nat.reduceSub, Array.replicate_succ, Array.replicate_zero, List.push_toArray, List.append_toArray, List.nil_append, List.cons_append]
  gi_wp2_with fail
  refine ⟨trivial, (callsIn_wide.2 (TAll_made p _)).mono ?_⟩
  rintro e w4 ⟨rfl, rfl⟩
  gi_wp2_with fail
  have hm0 : Mod [] w ((((w.alloc (.cells #[.slice none 0 0] 29)).alloc (.cells #[.slice none 0 0] 29)).alloc (.cells #[.int .i64 (-1)] 3)).alloc (.cells #[.pointer p] 23)) := ((((Mod.refl [] w).alloc _).alloc _).alloc _).alloc _
  have z1 : (w.alloc (.cells #[.slice none 0 0] 29)).heap.size = w.heap.size + 1 := by simp
  have z2 : ((w.alloc (.cells #[.slice none 0 0] 29)).alloc (.cells #[.slice none 0 0] 29)).heap.size = w.heap.size + 1 + 1 := by simp
  have z3 : (((w.alloc (.cells #[.slice none 0 0] 29)).alloc (.cells #[.slice none 0 0] 29)).alloc (.cells #[.int .i64 (-1)] 3)).heap.size = w.heap.size + 1 + 1 + 1 := by simp
  have b0 : Boxed _ w.heap.size 29 (.slice none 0 0) := at_alloc_old (o := .cells #[.pointer p] 23) (at_alloc_old (o := .cells #[.int .i64 (-1)] 3) (at_alloc_old (o := .cells #[.slice none 0 0] 29) (at_alloc w (.cells #[.slice none 0 0] 29))))
  have b1 : Boxed _ (w.heap.size + 1) 29 (.slice none 0 0) := z1 ▸ at_alloc_old (o := .cells #[.pointer p] 23) (at_alloc_old (o := .cells #[.int .i64 (-1)] 3) (at_alloc (w.alloc (.cells #[.slice none 0 0] 29)) (.cells #[.slice none 0 0] 29)))
  have b3 := at_alloc (((w.alloc (.cells #[.slice none 0 0] 29)).alloc (.cells #[.slice none 0 0] 29)).alloc (.cells #[.int .i64 (-1)] 3)) (.cells #[.pointer p] 23)
  rw [z3] at b3
  have z4 : ((((w.alloc (.cells #[.slice none 0 0] 29)).alloc (.cells #[.slice none 0 0] 29)).alloc (.cells #[.int .i64 (-1)] 3)).alloc (.cells #[.pointer p] 23)).heap.size = w.heap.size + 4 := by simp
  have hp0 := hp.mod hm0
  have hB0 := hm0.below
  clear z1 z2 z3 hp hm0
  generalize (((w.alloc (.cells #[.slice none 0 0] 29)).alloc (.cells #[.slice none 0 0] 29)).alloc (.cells #[.int .i64 (-1)] 3)).alloc (.cells #[.pointer p] 23) = W0 at *
  generalize hq : w.heap.size = q at *
  have hst := TAll_stops_nul 4 (by omega) (q + 1 + 1 + 1) (Keeps 0 (fun _ _ => True)) W0 hp0 b3
  refine wpIn_rangeFunc_ownH rfl (by omega) (gf := 58) (lb := #[.pointer (some ⟨q + 1 + 1 + 1, 0, none⟩)]) rfl trivial (enters_of Try.func58 (by kernel_rfl) rfl) hst keeps_t
    (keeps_b (fun _ _ _ _ _ h => h)) (RowKit.Below.refl _ _) (fun _ => rfl)
    (fun (_ : List (Int × Ent)) W => Boxed W (q + 1) 29 (.slice none 0 0) ∧ (Boxed W q 29 (.slice none 0 0) ∧ RowKit.Below q w W)) (fun _ _ _ => False)
    (OwnFrom.and (Own.from (boxed_own (q + 1) 29 (fun (_ : List (Int × Ent)) => Value.slice none 0 0)) _) (OwnFrom.and (Own.from (boxed_own q 29 (fun (_ : List (Int × Ent)) => Value.slice none 0 0)) _) (ownFrom_below (by omega) (by omega)))) (fun _ _ _ _ _ hs _ _ => hs)
    ⟨b1, b0, hB0⟩ (fun _ _ _ => True) (fun p a' => ?hax) ?assign ?body ?done ?stop
  case hax => exact fun _ _ _ _ _ _ _ => trivial
  case assign =>
    rintro l pre ⟨ps, eh, eo, et, ef, el⟩ W K ⟨hv, hv0, hB⟩ hK
    have hKH := Lib.hid hK
    clear hK
    unfold entV
    gi_wp2_with fail
    refine hKH.out _ _ ((KeepsOthers.alloc W _).from _) ⟨by simp, fun k cs T fr hk _ hck => ⟨at_alloc_old hck, trivial⟩⟩ ⟨hv.alloc _, hv0.alloc _, hB.trans ((RowKit.Below.refl q W).alloc (by have := hv0.lt; omega) _)⟩ trivial
  case body =>
    rintro l pre x a' W _ _ _ _ h
    simp at h
  case done =>
    rintro D ys W hD rfl ⟨hv, hv0, hB⟩ hK
    have hc := hv.cell
    have hc0 := hv0.cell
    have hf0 := hv0.frozen
    have hv0H := Lib.hid hv0
    have hBH := Lib.hid hB
    clear hv0 hB
    gi_wp2_with fail
    have hK2 := at_setCell_other (a := ⟨q, 0, none⟩) (v := .slice none 0 0) hK (by show D ≠ q; omega)
    refine ⟨by simp, .inl ⟨_, _, rfl, run_takeDeferred hK2, ?_⟩⟩
    have hv3 := (hv0H.out.set (.slice none 0 0))
    have hB4 := (hBH.out.trans ((RowKit.Below.refl q W).setCell (p := ⟨q, 0, none⟩) (Nat.le_refl _) (.slice none 0 0))).trans (belowK_b (w := w) (by omega) (W.setCell ⟨q, 0, none⟩ (.slice none 0 0)) D _ (.deferred none) (by omega) hK2 rfl rfl)
    have hv4 := (hv3.kept (grownBy_putObj' _ D (.deferred none)) (by intro e; have := Option.some.inj e; omega)).cell
    clear hv3 hK2
    generalize (W.setCell ⟨q, 0, none⟩ (.slice none 0 0)).putObj D (.deferred none) = W2 at *
    refine ⟨.slice none 0 0, ?_, rfl, Mod.of_below (by rw [hq]; exact hB4)⟩
    clear hB4 hv0H hBH
    simp [results, Try.results24, asAddr, go_sem, hv4]
  case stop =>
    rintro D c pre W _ _ h _
    exact h.elim
end

/-- What the two constructors return for these numbers. -/
def NewV (n f : Int) (p : Option Addr) (E : Int) : Prop := (p = none ∧ E = 1 ∧ (n < 0 ∨ 4096 < n ∨ f < 1 ∨ 4294967295 < f)) ∨ ((∃ a, p = some a) ∧ E = 0 ∧ ¬ (n < 0 ∨ 4096 < n ∨ f < 1 ∨ 4294967295 < f))
theorem NewV.same {n f : Int} {p q : Option Addr} {E E' : Int} (h : NewV n f p E) (h' : NewV n f q E') : E' = E := by
  rcases h with ⟨_, rfl, h⟩ | ⟨_, rfl, h⟩ <;> rcases h' with ⟨_, rfl, h'⟩ | ⟨_, rfl, h'⟩
  · rfl
  · exact absurd h h'
  · exact absurd h' h
  · rfl
theorem NewV.form {n f : Int} {p : Option Addr} {E : Int} (h : NewV n f p E) : (p = none ∧ E = 1) ∨ ∃ a, p = some a ∧ E = 0 := by
  rcases h with ⟨h1, h2, _⟩ | ⟨⟨a, h1⟩, h2, _⟩
  · exact .inl ⟨h1, h2⟩
  · exact .inr ⟨a, h1, h2⟩
theorem tnew_any (n f : Int) (w : World) : Calls Try.prog 8 #[.int .i64 n, .int .i64 f] w fun e w' => ∃ p E, e = .returned (.tuple #[.pointer p, .int .i64 E]) ∧ NewV n f p E ∧ Mod [] w w' := by
  by_cases h : n < 0 ∨ 4096 < n ∨ f < 1 ∨ 4294967295 < f
  · exact (tnew_bad n f h w).mono fun e w' ⟨he, hm⟩ => ⟨_, _, he, .inl ⟨rfl, rfl, h⟩, hm⟩
  · obtain ⟨m, rfl⟩ := Int.eq_ofNat_of_zero_le (show 0 ≤ n by omega)
    exact (tnew_ok m f (by omega) (by omega) (by omega) (Scene.empty w)).mono fun e w' ⟨_, _, b, _, _, he, hS⟩ => ⟨_, _, he, .inr ⟨⟨_, rfl⟩, rfl, h⟩, hS.mod⟩
theorem rtnew_any (n f : Int) (w : World) : Calls Try.prog 17 #[.int .i64 n, .int .i64 f] w fun e w' => ∃ p E, e = .returned (.tuple #[.pointer p, .int .i64 E]) ∧ NewV n f p E ∧ Mod [] w w' := by
  by_cases h : n < 0 ∨ 4096 < n ∨ f < 1 ∨ 4294967295 < f
  · exact (rtnew_bad n f h w).mono fun e w' ⟨he, hm⟩ => ⟨_, _, he, .inl ⟨rfl, rfl, h⟩, hm⟩
  · obtain ⟨m, rfl⟩ := Int.eq_ofNat_of_zero_le (show 0 ≤ n by omega)
    exact (rtnew_ok m f (by omega) (by omega) (by omega) (Scene.empty w)).mono fun e w' ⟨_, _, b, _, _, he, hS⟩ => ⟨_, _, he, .inr ⟨⟨_, rfl⟩, rfl, h⟩, hS.mod⟩
set_option maxHeartbeats 4000000 in
set_option maxRecDepth 10000 in
theorem tnone_walk (n f h owner : Int) (h0 : 0 ≤ h) (h1 : h ≤ 18446744073709551615) (w : World) :
    Calls Try.prog 7 #[.int .i64 n, .int .i64 f, .int .u64 h, .int .i64 owner] w fun e w' => e = .returned (.bool true) ∧ Mod [] w w' := by
  go_enter Try.func7, Try.ntmps7
  go_wp2_with fail
  refine (tnew_any n f _).mono ?_
  rintro e w1 ⟨p1, E1, rfl, hv1, hm1⟩
  go_wp2_with fail
  refine (rtnew_any n f _).mono ?_
  rintro e w2 ⟨p2, E2, rfl, hv2, hm2⟩
  have hm4 := hm1.nil_then hm2
  obtain rfl := hv1.same hv2
  have hf1 := hv1.form
  clear hv1 hv2 hm1 hm2
  have e1 : (E2 == E2) = true := by simp
  generalize w2 = w4 at *
  rcases hf1 with ⟨rfl, rfl⟩ | ⟨a1, rfl, rfl⟩
  · go_wp2_with fail
    have hA := at_alloc w4 (.cells #[.pointer none, .slice none 0 0] 63 (0, 0))
    have hB := at_alloc (w4.alloc (.cells #[.pointer none, .slice none 0 0] 63 (0, 0))) (.cells #[.pointer none, .pointer (some ⟨w4.heap.size, 0, none⟩)] 23 (0, 0))
    have hA := at_alloc_old (o := .cells #[.pointer none, .pointer (some ⟨w4.heap.size, 0, none⟩)] 23 (0, 0)) hA
    have hm5 := (hm4.alloc (.cells #[.pointer none, .slice none 0 0] 63 (0, 0))).alloc (.cells #[.pointer none, .pointer (some ⟨w4.heap.size, 0, none⟩)] 23 (0, 0))
    have hsz : (w4.alloc (.cells #[.pointer none, .slice none 0 0] 63 (0, 0))).heap.size = w4.heap.size + 1 := by simp
    rw [hsz] at hB
    clear hsz hm4
    generalize (w4.alloc (.cells #[.pointer none, .slice none 0 0] 63 (0, 0))).alloc (.cells #[.pointer none, .pointer (some ⟨w4.heap.size, 0, none⟩)] 23 (0, 0)) = w5 at *
    generalize w4.heap.size = q at *
    go_loopw [49] (fun i wr => ∃ j : Nat, j ≤ 2 ∧ i = .int .i64 j ∧ Mod [] w5 wr) (fun i _ => 2 - (intOf i).toNat)
    case atStart => exact ⟨0, by omega, rfl, Mod.refl _ _⟩
    case round =>
      obtain ⟨j, hj, rfl, hm6⟩ := hrel
      have hBr := hm6.at hB (by simp)
      have hcB := cells_of hBr
      by_cases hj2 : j < 2
      · obtain ⟨p, hp, hN⟩ : ∃ p, wr.cell? ⟨q + 1, j, none⟩ = some (.pointer p) ∧ NulT w5 p := by
          rcases (show j = 0 ∨ j = 1 by omega) with rfl | rfl
          · exact ⟨none, by rw [hcB]; rfl, .inl rfl⟩
          · exact ⟨some ⟨q, 0, none⟩, by rw [hcB]; rfl, .inr ⟨q, rfl, hA⟩⟩
        clear hcB hBr
        go_wp2_with fail
        refine (nult_issue (hN.mod hm6) 1 (.inl rfl) _).mono ?_
        rintro e w7 ⟨rfl, hm7⟩
        have hm7 := hm6.nil_then hm7
        clear hm6
        go_wp2_with fail
        refine (nult_issue (hN.mod hm7) 0 (.inr rfl) _).mono ?_
        rintro e w8 ⟨rfl, hm8⟩
        have hm8 := hm7.nil_then hm8
        clear hm7
        go_wp2_with fail
        refine (nult_resolve (hN.mod hm8) h h0 h1).mono ?_
        rintro e w9 ⟨rfl, hm9⟩
        have hm9 := (hm8.nil_then hm9).alloc (.cells #[.int .u64 0, .int .i64 0, .int .i64 0, .int .i64 0, .int .i64 0] 39 (0, 0))
        clear hm8
        go_wp2_with fail
        refine (nult_drop (hN.mod hm9) h h0 h1).mono ?_
        rintro e w10 ⟨rfl, hm10⟩
        have hm10 := hm9.nil_then hm10
        clear hm9
        go_wp2_with fail
        refine (nult_give (hN.mod hm10) h h0 h1 _).mono ?_
        rintro e w11 ⟨rfl, hm11⟩
        have hm11 := hm10.nil_then hm11
        clear hm10
        go_wp2_with fail
        refine (listed_nul (hN.mod hm11)).mono ?_
        rintro e w12 ⟨rfl, hm12⟩
        have hm12 := hm11.nil_then hm12
        clear hm11
        go_wp2_with fail
        refine (nult_full (hN.mod hm12)).mono ?_
        rintro e w13 ⟨rfl, hm13⟩
        have hm13 := hm12.nil_then hm13
        clear hm12
        go_wp2_with fail
        refine (nult_retired (hN.mod hm13)).mono ?_
        rintro e w14 ⟨rfl, hm14⟩
        have hm14 := hm13.nil_then hm14
        clear hm13
        go_wp2_with fail
        refine (nult_pool (hN.mod hm14)).mono ?_
        rintro e w15 ⟨rfl, hm15⟩
        have hm15 := hm14.nil_then hm15
        clear hm14
        go_wp2_with fail
        go_roundw
        case rel => exact ⟨j + 1, by omega, by go_num, hm15⟩
        case measure => simp [intOf]; omega
      · go_wp2_with fail
        refine (tawake_ok _).mono ?_
        rintro e w6 ⟨rfl, hm7⟩
        go_wp2_with fail
        go_ret
        exact ⟨rfl, (hm5.nil_then hm6).nil_then hm7⟩
  · go_wp2_with fail
    have hA := at_alloc w4 (.cells #[.pointer none, .slice none 0 0] 63 (0, 0))
    have hB := at_alloc (w4.alloc (.cells #[.pointer none, .slice none 0 0] 63 (0, 0))) (.cells #[.pointer none, .pointer (some ⟨w4.heap.size, 0, none⟩)] 23 (0, 0))
    have hA := at_alloc_old (o := .cells #[.pointer none, .pointer (some ⟨w4.heap.size, 0, none⟩)] 23 (0, 0)) hA
    have hm5 := (hm4.alloc (.cells #[.pointer none, .slice none 0 0] 63 (0, 0))).alloc (.cells #[.pointer none, .pointer (some ⟨w4.heap.size, 0, none⟩)] 23 (0, 0))
    have hsz : (w4.alloc (.cells #[.pointer none, .slice none 0 0] 63 (0, 0))).heap.size = w4.heap.size + 1 := by simp
    rw [hsz] at hB
    clear hsz hm4
    generalize (w4.alloc (.cells #[.pointer none, .slice none 0 0] 63 (0, 0))).alloc (.cells #[.pointer none, .pointer (some ⟨w4.heap.size, 0, none⟩)] 23 (0, 0)) = w5 at *
    generalize w4.heap.size = q at *
    go_loopw [49] (fun i wr => ∃ j : Nat, j ≤ 2 ∧ i = .int .i64 j ∧ Mod [] w5 wr) (fun i _ => 2 - (intOf i).toNat)
    case atStart => exact ⟨0, by omega, rfl, Mod.refl _ _⟩
    case round =>
      obtain ⟨j, hj, rfl, hm6⟩ := hrel
      have hBr := hm6.at hB (by simp)
      have hcB := cells_of hBr
      by_cases hj2 : j < 2
      · obtain ⟨p, hp, hN⟩ : ∃ p, wr.cell? ⟨q + 1, j, none⟩ = some (.pointer p) ∧ NulT w5 p := by
          rcases (show j = 0 ∨ j = 1 by omega) with rfl | rfl
          · exact ⟨none, by rw [hcB]; rfl, .inl rfl⟩
          · exact ⟨some ⟨q, 0, none⟩, by rw [hcB]; rfl, .inr ⟨q, rfl, hA⟩⟩
        clear hcB hBr
        go_wp2_with fail
        refine (nult_issue (hN.mod hm6) 1 (.inl rfl) _).mono ?_
        rintro e w7 ⟨rfl, hm7⟩
        have hm7 := hm6.nil_then hm7
        clear hm6
        go_wp2_with fail
        refine (nult_issue (hN.mod hm7) 0 (.inr rfl) _).mono ?_
        rintro e w8 ⟨rfl, hm8⟩
        have hm8 := hm7.nil_then hm8
        clear hm7
        go_wp2_with fail
        refine (nult_resolve (hN.mod hm8) h h0 h1).mono ?_
        rintro e w9 ⟨rfl, hm9⟩
        have hm9 := (hm8.nil_then hm9).alloc (.cells #[.int .u64 0, .int .i64 0, .int .i64 0, .int .i64 0, .int .i64 0] 39 (0, 0))
        clear hm8
        go_wp2_with fail
        refine (nult_drop (hN.mod hm9) h h0 h1).mono ?_
        rintro e w10 ⟨rfl, hm10⟩
        have hm10 := hm9.nil_then hm10
        clear hm9
        go_wp2_with fail
        refine (nult_give (hN.mod hm10) h h0 h1 _).mono ?_
        rintro e w11 ⟨rfl, hm11⟩
        have hm11 := hm10.nil_then hm11
        clear hm10
        go_wp2_with fail
        refine (listed_nul (hN.mod hm11)).mono ?_
        rintro e w12 ⟨rfl, hm12⟩
        have hm12 := hm11.nil_then hm12
        clear hm11
        go_wp2_with fail
        refine (nult_full (hN.mod hm12)).mono ?_
        rintro e w13 ⟨rfl, hm13⟩
        have hm13 := hm12.nil_then hm13
        clear hm12
        go_wp2_with fail
        refine (nult_retired (hN.mod hm13)).mono ?_
        rintro e w14 ⟨rfl, hm14⟩
        have hm14 := hm13.nil_then hm14
        clear hm13
        go_wp2_with fail
        refine (nult_pool (hN.mod hm14)).mono ?_
        rintro e w15 ⟨rfl, hm15⟩
        have hm15 := hm14.nil_then hm15
        clear hm14
        go_wp2_with fail
        go_roundw
        case rel => exact ⟨j + 1, by omega, by go_num, hm15⟩
        case measure => simp [intOf]; omega
      · go_wp2_with fail
        refine (tawake_ok _).mono ?_
        rintro e w6 ⟨rfl, hm7⟩
        go_wp2_with fail
        go_ret
        exact ⟨rfl, (hm5.nil_then hm6).nil_then hm7⟩
end Go.Proofs.Ytcdmapllligjhaa
