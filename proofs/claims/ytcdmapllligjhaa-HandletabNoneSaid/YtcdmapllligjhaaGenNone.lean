/- Generations: nil and zero slots. -/
import Derived.Test.YtcdmapllligjhaaGenPair
namespace Go.Proofs.Ytcdmapllligjhaa
open Go Go.RowKit Go.Stg
section
attribute [local go_sem] Oper.semAt_some
set_option maxRecDepth 100000 in
set_option maxHeartbeats 4000000 in
theorem appendseq_nil (B : Nat) (w : World) (bN : w.heap[B]? = some (.cells #[.pointer none] 102 (0, 0))) : Calls Try.prog 64 #[.slice none 0 0, .func (.func 65) #[] #[.pointer (some ⟨B, 0, none⟩)]] w fun e w' => e = .returned (.slice none 0 0) ∧ Mod [] w w' := by
  refine (callsIn_wide (n := 5)).1 ?_
  refine callsIn_of_wp_marks Try.func64 rfl trivial ?_ rfl
  simp only [Try.ntmps64, List.size_toArray, List.length_cons, List.length_nil, Nat.reduceAdd, Nat.reduceSub, Array.replicate_succ, Array.replicate_zero, List.push_toArray, List.append_toArray, List.nil_append, List.cons_append]
  gi_wp2_with fail
  have bO0 := Boxed.new w 67 (.slice none 0 0)
  have bN := at_alloc_old (o := .cells #[.slice none 0 0] 67) bN
  have hB0 : RowKit.Below w.heap.size w (w.alloc (.cells #[.slice none 0 0] 67)) := (RowKit.Below.refl _ w).alloc (Nat.le_refl _) _
  have hsz : (w.alloc (.cells #[.slice none 0 0] 67)).heap.size = w.heap.size + 1 := by simp
  generalize w.alloc (.cells #[.slice none 0 0] 67) = W0 at *
  have hst := AllI_stops_nil 4 B (Keeps 0 (fun _ _ => True)) W0 bN
  refine wpIn_rangeFunc_ownG rfl (by omega) (gf := 65) (lb := #[.pointer (some ⟨B, 0, none⟩)]) rfl trivial (enters_of Try.func65 (by kernel_rfl) rfl) hst keeps_t
    (keeps_b (fun _ _ _ _ _ h => h)) (RowKit.Below.refl _ _) (fun _ => rfl)
    (fun (_ : List Int) W => Boxed W w.heap.size 67 (.slice none 0 0) ∧ RowKit.Below w.heap.size w W) (fun _ _ _ => False)
    (OwnFrom.and (Own.from (boxed_own w.heap.size 67 (fun (_ : List Int) => Value.slice none 0 0)) _) (ownFrom_below (Nat.le_refl _) (by omega))) (fun _ _ _ _ _ hs _ _ => hs)
    ⟨bO0, hB0⟩ ?a1 ?assign ?body ?done ?stop
  case assign =>
    intro l x W K hK
    gi_wp2
    exact hK
  case body =>
    intro l pre x W _ h
    simp at h
  case done =>
    rintro D ys W hD rfl ⟨hv, hB⟩ hK
    have hc := hv.cell
    gi_wp2_with fail
    refine ⟨by simp, .inl ⟨_, _, rfl, run_takeDeferred hK, ?_⟩⟩
    have hB' := hB.trans (belowK_b (w := w) (Nat.le_refl _) W D _ (.deferred none) (by omega) hK rfl rfl)
    generalize W.putObj D (.deferred none) = W2 at *
    exact ⟨_, results_tmp rfl _ _ _, rfl, Mod.of_below hB'⟩
  case stop =>
    rintro D c pre W _ _ h _
    exact h.elim
end
theorem collect_nil (B : Nat) (w : World) (bN : w.heap[B]? = some (.cells #[.pointer none] 102 (0, 0))) : Calls Try.prog 59 #[.func (.func 65) #[] #[.pointer (some ⟨B, 0, none⟩)]] w fun e w' => e = .returned (.slice none 0 0) ∧ Mod [] w w' := by
  have hA := Lib.hid (appendseq_nil B w bN)
  clear bN
  go_enter Try.func59, Try.ntmps59
  go_wp2_with fail
  refine hA.out.mono ?_
  rintro e w1 ⟨rfl, hm⟩
  go_wp2_with fail
  go_ret
  exact ⟨rfl, hm⟩
/-- Slots that are nil, or zero. -/
def Nul (w : World) (p : Option Addr) : Prop := p = none ∨ ∃ b, p = some ⟨b, 0, none⟩ ∧ w.heap[b]? = some (.cells #[.int .i64 0, .slice none 0 0, .pointer none, .int .i64 0] 105 (0, 0))
theorem Nul.mod {w w' : World} {p : Option Addr} (h : Nul w p) (hm : Mod [] w w') : Nul w' p := by
  rcases h with h | ⟨b, h1, h2⟩
  · exact .inl h
  · exact .inr ⟨b, h1, hm.at h2 (by simp)⟩
section
variable {w : World} {p : Option Addr} (h : Nul w p)
include h
theorem nul_size : Calls Try.prog 35 #[.pointer p] w fun e w' => e = .returned (.int .i64 0) ∧ Mod [] w w' := by
  rcases h with rfl | ⟨b, rfl, hb⟩
  · go_enter Try.func35, Try.ntmps35
    go_wp2
    go_ret
    exact ⟨rfl, Mod.refl _ _⟩
  · have hcb := cells_of hb
    clear hb
    go_enter Try.func35, Try.ntmps35
    go_wp2
    go_ret
    exact ⟨rfl, Mod.refl _ _⟩
theorem nul_retired : Calls Try.prog 49 #[.pointer p] w fun e w' => e = .returned (.int .i64 0) ∧ Mod [] w w' := by
  rcases h with rfl | ⟨b, rfl, hb⟩
  · go_enter Try.func49, Try.ntmps49
    go_wp2
    go_ret
    exact ⟨rfl, Mod.refl _ _⟩
  · have hcb := cells_of hb
    clear hb
    go_enter Try.func49, Try.ntmps49
    go_wp2
    go_ret
    exact ⟨rfl, Mod.refl _ _⟩
theorem nul_issue (d : Int) : Calls Try.prog 31 #[.pointer p, .int .u64 d] w fun e w' => e = .returned (.tuple #[.int .i64 0, .int .i64 0, .int .i64 17]) ∧ Mod [] w w' := by
  rcases h with rfl | ⟨b, rfl, hb⟩
  · go_enter Try.func31, Try.ntmps31
    go_wp2_with fail
    exact bodyPost_ret (v := .tuple #[.int .i64 0, .int .i64 0, .int .i64 17]) (by simp [results, Try.results31, go_sem]) rfl ⟨rfl, Mod.refl _ _⟩
  · have hcb := cells_of hb
    clear hb
    go_enter Try.func31, Try.ntmps31
    go_wp2_with fail
    refine (TakeI_nil d w).mono ?_
    rintro e w1 ⟨rfl, hm⟩
    go_wp2_with fail
    exact bodyPost_ret (v := .tuple #[.int .i64 0, .int .i64 0, .int .i64 17]) (by simp [results, Try.results31, go_sem]) rfl ⟨rfl, hm⟩
theorem nul_live (k : Int) : Calls Try.prog 36 #[.pointer p, .int .i64 k] w fun e w' => e = .returned (.tuple #[.int .i64 0, .bool false]) ∧ Mod [] w w' := by
  have hS := Lib.hid (nul_size h)
  clear h
  by_cases hk : k < 0
  · go_enter Try.func36, Try.ntmps36
    go_wp2_with fail
    go_ret2
    exact ⟨rfl, Mod.refl _ _⟩
  · go_enter Try.func36, Try.ntmps36
    go_wp2_with fail
    refine hS.out.mono ?_
    rintro e w1 ⟨rfl, hm⟩
    go_wp2_with fail
    go_ret2
    exact ⟨rfl, hm⟩
theorem nul_end (k : Int) : Calls Try.prog 34 #[.pointer p, .int .i64 k] w fun e w' => e = .returned (.int .i64 6) ∧ Mod [] w w' := by
  have hS := Lib.hid (nul_live h k)
  clear h
  go_enter Try.func34, Try.ntmps34
  go_wp2_with fail
  refine hS.out.mono ?_
  rintro e w1 ⟨rfl, hm⟩
  go_wp2_with fail
  go_ret
  exact ⟨rfl, hm⟩
theorem nul_pool : Calls Try.prog 50 #[.pointer p] w fun e w' => e = .returned (.slice none 0 0) ∧ Mod [] w w' := by
  rcases h with rfl | ⟨b, rfl, hb⟩
  · go_enter Try.func50, Try.ntmps50
    go_wp2_with fail
    go_ret
    exact ⟨rfl, Mod.refl _ _⟩
  · have hcb := cells_of hb
    clear hb
    go_enter Try.func50, Try.ntmps50
    go_wp2_with fail
    refine (AllI_made none _).mono ?_
    rintro e w1 ⟨rfl, rfl⟩
    have hm0 := (Mod.refl [] w).alloc (.cells #[.pointer none] 102)
    have hC := Lib.hid (collect_nil w.heap.size _ (at_alloc w (.cells #[.pointer none] 102)))
    go_wp2_with fail
    refine hC.out.mono ?_
    rintro e w2 ⟨rfl, hm⟩
    go_wp2_with fail
    go_ret
    exact ⟨rfl, hm0.nil_then hm⟩
end
end Go.Proofs.Ytcdmapllligjhaa
