/- PoolNone: the walk of the law. -/
import Derived.Test.YtnlfcfobdefflaaPoolAll
namespace Go.Proofs.Ytnlfcfobdefflaa
open Go Go.RowKit Go.Stg
attribute [local go_sem] Oper.semAt_some

theorem inw {n : Nat} {f : FuncId} {args : Array Value} {w : World} {R : Ending → World → Prop} (h : Calls Try.prog f args w R) : Fence.wide.fn f ∧ CallsIn Fence.wide n Try.prog f args w R := ⟨trivial, callsIn_wide.2 h⟩

set_option maxRecDepth 100000 in
set_option maxHeartbeats 4000000 in
theorem none_walk (x d : Int) (hd : 0 ≤ d) (hd2 : d ≤ 18446744073709551615) (w : World) : Calls Try.prog 6 #[.int .i64 x, .int .u64 d] w fun e w' => e = .returned (.bool true) ∧ Mod [] w w' := by
  refine (callsIn_wide (n := 5)).1 ?_
  refine callsIn_of_wp_marks Try.func6 rfl trivial ?_ rfl
  simp only [Try.ntmps6, List.size_toArray, List.length_cons, List.length_nil, Nat.reduceAdd, Nat.reduceSub, Array.replicate_succ, Array.replicate_zero, List.push_toArray, List.append_toArray, List.nil_append, List.cons_append]
  gi_wp2_with fail
  refine ⟨trivial, (callsIn_wide.2 (awake_ok _)).mono ?_⟩
  rintro e w1 ⟨rfl, hm1⟩
  have hr1 : w1.heap[w.heap.size]? = some (.cells #[.bool false] 4 (0, 0)) := hm1.at (at_alloc _ _) (by simp)
  have hm1 := ((Mod.refl [] w).alloc (.cells #[.bool false] 4 (0, 0))).nil_then hm1
  have hcr := cells_of hr1
  have hfr := frozen_of hr1
  gi_wp2_with fail
  refine ⟨trivial, (callsIn_wide.2 (PutI_nil x _)).mono ?_⟩
  rintro e w2 ⟨rfl, hm2⟩
  have hr2 := hm2.at hr1 (by simp)
  have hm2 := hm1.nil_then hm2
  clear hcr hfr hr1 hm1
  gi_wp2_with fail
  refine ⟨trivial, (callsIn_wide.2 (TakeI_nil d _)).mono ?_⟩
  rintro e w3 ⟨rfl, hm3⟩
  have hr3 := hm3.at hr2 (by simp)
  have hm3 := hm2.nil_then hm3
  clear hr2 hm2
  gi_wp2_with fail
  refine ⟨trivial, (callsIn_wide.2 (AllI_made none _)).mono ?_⟩
  rintro e w4 ⟨rfl, rfl⟩
  have hbx := at_alloc w3 (.cells #[.pointer none] 30)
  have hr4 := at_alloc_old (o := .cells #[.pointer none] 30) hr3
  have hm4 := hm3.alloc (.cells #[.pointer none] 30)
  generalize hB : w3.heap.size = B at *
  generalize w3.alloc (.cells #[.pointer none] 30) = w4 at *
  clear hr3 hm3 hB
  gi_wp2_with fail
  have hst := AllI_stops_nil 4 B (Keeps 0 (fun _ _ => True)) w4 hbx
  refine wpIn_rangeFunc_ownG rfl (by omega) (gf := 27) (lb := #[.pointer (some ⟨B, 0, none⟩)]) rfl trivial (enters_of Try.func27 (by kernel_rfl) rfl) hst keeps_t (keeps_b (fun _ _ _ _ _ h => h)) (RowKit.Below.refl _ _) (fun _ => rfl)
    (fun _ W => RowKit.Below w4.heap.size w4 W) (fun _ _ _ => False) (ownFrom_below (Nat.le_refl _) (Nat.le_refl _)) (fun _ _ _ _ _ hs _ _ => hs) (RowKit.Below.refl _ _) ?a1 ?assign ?body ?done ?stop
  case assign =>
    intro l x W K hK
    gi_wp2
    exact hK
  case body =>
    intro l pre x W _ h
    simp at h
  case stop =>
    intro D c pre W _ h
    exact h.elim
  case done =>
    rintro D ys W hD rfl hI hK
    have hm5 := Mod.of_below hI
    have hr5 := hm5.at hr4 (by simp)
    have hm5 := hm4.nil_then hm5
    have hDw : w.heap.size < D := by have := lt_of hr4; omega
    clear hI hst hbx hr4 hm4
    clear hD
    gi_wp2_with fail
    have hD := lt_of hK
    have hwb := hm5.size
    have hp : PoolAt 57 3 (W.alloc (.cells #[.slice none 0 0] 57)) W.heap.size (.slice none 0 0) [] := ⟨at_alloc _ _, World.ownsRow_nil _ _ _ _, by simp [Value.ownBlock], by simp⟩
    have hK6 := at_alloc_old (o := .cells #[.slice none 0 0] 57) hK
    have hr6 := at_alloc_old (o := .cells #[.slice none 0 0] 57) hr5
    have hm6 := hm5.alloc (.cells #[.slice none 0 0] 57)
    have hwr := lt_of hr5
    generalize hb : W.heap.size = b at *
    generalize W.alloc (.cells #[.slice none 0 0] 57) = w6 at *
    clear hK hr5 hm5
    refine ⟨trivial, (callsIn_wide.2 (TakeI_none d b _ w6 hp)).mono ?_⟩
    rintro e w7 ⟨rfl, hm7⟩
    have hp7 := hp.mod hm7 (by simp)
    have hr7 := hm7.at hr6 (by simp)
    have hK7 := hm7.at hK6 (by simp)
    have hm7 := hm6.nil_then hm7
    clear hm6 hr6 hK6 hp
    gi_wp2_with fail
    refine ⟨trivial, (callsIn_wide.2 (PutI_any x b _ [] w7 hp7 (by simp))).mono ?_⟩
    rintro e w8 ⟨sv8, rfl, hm8, hp8, hs8⟩
    have hr8 := hm8.at hr7 (by simp [Value.ownBlock]; omega)
    have hK8 := hm8.at hK7 (by simp [Value.ownBlock]; omega)
    have hsz := hm7.size
    have hm8 := hm7.then hm8 (by intro y hy; simp [Value.ownBlock] at hy; omega)
    have hs8 : ∀ y, sv8.ownBlock = some y → y ≠ w.heap.size ∧ y ≠ D ∧ w.heap.size ≤ y := by
      intro y hy
      rcases hs8 y hy with h | h
      · simp [Value.ownBlock] at h
      · have := lt_of hK7; have := lt_of hr7; omega
    clear hm7 hr7 hK7 hp7
    gi_wp2_with fail
    refine ⟨trivial, (callsIn_wide.2 (TakeI_some d hd hd2 b sv8 [x] w8 hp8 (by simp) 0 (by simp) (by simp))).mono ?_⟩
    rintro e w9 ⟨sv9, rfl, hm9, hp9, hs9⟩
    have hnot : ∀ q, q ≠ b → (∀ y, sv8.ownBlock = some y → y ≠ q) → q ∉ b :: sv8.ownBlock.toList := by
      intro q h1 h2 hq
      rcases List.mem_cons.1 hq with e | hq
      · exact h1 e
      · exact h2 q (by simpa using hq) rfl
    have hr9 := hm9.at hr8 (hnot _ (by omega) (fun y hy => (hs8 y hy).1))
    have hK9 := hm9.at hK8 (hnot _ (by omega) (fun y hy => (hs8 y hy).2.1))
    have hm9 := hm8.then hm9 (by
      intro y hy
      rcases List.mem_cons.1 hy with rfl | hy
      · right; omega
      · right; exact (hs8 y (by simpa using hy)).2.2)
    clear hm8 hr8 hK8 hp8 hs8 hnot hs9 hp9
    gi_wp2_with fail
    refine ⟨trivial, (callsIn_wide.2 (awake_ok _)).mono ?_⟩
    rintro e w10 ⟨rfl, hm10⟩
    have hr10 := hm10.at hr9 (by simp)
    have hK10 := hm10.at hK9 (by simp)
    have hm10 := hm9.nil_then hm10
    clear hm9 hr9 hK9
    gi_wp2_with fail
    refine ⟨trivial, (callsIn_wide.2 (LenI_nil _)).mono ?_⟩
    rintro e w11 ⟨rfl, hm11⟩
    have hr11 := hm11.at hr10 (by simp)
    have hK11 := hm11.at hK10 (by simp)
    have hm11 := hm10.nil_then hm11
    clear hm10 hr10 hK10
    have hc11 := cells_of hr11
    have hf11 := frozen_of hr11
    gi_wp2_with fail
    have hKz := at_setCell_other (a := ⟨w.heap.size, 0, none⟩) (v := .bool true) hK11 (by show D ≠ w.heap.size; omega)
    have hrz := at_setCell (o := 0) (v := .bool true) hr11
    have hmz := hm11.setCell (p := ⟨w.heap.size, 0, none⟩) (.inr (Nat.le_refl _)) (.bool true)
    generalize w11.setCell ⟨w.heap.size, 0, none⟩ (.bool true) = wz at *
    refine ⟨by simp, .inl ⟨_, _, rfl, run_takeDeferred hKz, ?_⟩⟩
    have hg := grownBy_putObj' wz D (.deferred none)
    have hrq := (hg.block w.heap.size (lt_of hrz) (by intro e; have := Option.some.inj e; omega)).trans hrz
    have hmq := hmz.grown hg (by intro k hk; have := Option.some.inj hk; right; omega)
    generalize wz.putObj D (.deferred none) = wq at *
    refine ⟨.bool true, ?_, rfl, hmq⟩
    simp [results, Try.results6, go_sem, cells_of hrq]
end Go.Proofs.Ytnlfcfobdefflaa
