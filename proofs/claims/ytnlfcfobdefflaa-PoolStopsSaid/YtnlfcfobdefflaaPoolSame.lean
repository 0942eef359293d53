/- The laws' comparison of two lists of numbers. -/
import Derived.Test.YtnlfcfobdefflaaPoolOnce
namespace Go.Proofs.Ytnlfcfobdefflaa
open Go Go.RowKit Go.Stg

/-- A list of numbers that can be read. -/
def IntsAt (w : World) (v : Value) (xs : List Int) : Prop :=
  (v = .slice none 0 0 ∧ xs = []) ∨ ∃ sb so cap, v = .slice (some ⟨sb, so, none⟩) xs.length cap ∧ sb < w.heap.size ∧ xs.length ≤ 1000000 ∧
    ∀ i (h : i < xs.length), w.cell? ⟨sb, so + i, none⟩ = some (.int .i64 xs[i])
theorem IntsAt.len {w0 : World} {v : Value} {xs : List Int} (h : IntsAt w0 v xs) (ty : TypeId) (w : World) : (Builtin.len_ #[45] ty #[v]).run Try.prog w = .ok (.int .i64 xs.length) w := by
  rcases h with ⟨rfl, rfl⟩ | ⟨sb, so, cap, rfl, _⟩ <;> simp [Builtin.len_, run_underlying Try.underlying45, goInt]
theorem IntsAt.mod {S : List Nat} {w w' : World} {v : Value} {xs : List Int} (h : IntsAt w v xs) (hm : Mod S w w') (hS : ∀ x, v.ownBlock = some x → x ∉ S) : IntsAt w' v xs := by
  rcases h with h | ⟨sb, so, cap, rfl, h2, h3, h4⟩
  · exact .inl h
  · exact .inr ⟨sb, so, cap, rfl, hm.lt h2, h3, fun i hi => (cell_mod hm h2 (hS sb rfl)).trans (h4 i hi)⟩
theorem IntsAt.small {w : World} {v : Value} {xs : List Int} (h : IntsAt w v xs) : xs.length ≤ 1000000 := by
  rcases h with ⟨_, rfl⟩ | ⟨_, _, _, _, _, h, _⟩
  · simp
  · exact h
theorem same_self (v u : Value) (xs : List Int) (w : World) (hv : IntsAt w v xs) (hu : IntsAt w u xs) : Calls Try.prog 21 #[v, u] w fun e w' => e = .returned (.bool true) ∧ Mod [] w w' := by
  have l1 := fun ty w => hv.len ty w
  have l2 := fun ty w => hu.len ty w
  have hs := hv.small
  go_enter Try.func21, Try.ntmps21
  go_wp2_with fail
  go_loopw [5] (fun i wr => ∃ k : Nat, k ≤ xs.length ∧ i = .int .i64 k ∧ Mod [] w wr) (fun i _ => xs.length - (intOf i).toNat)
  case atStart => exact ⟨0, by omega, rfl, Mod.refl _ _⟩
  case round =>
    obtain ⟨k, hk, rfl, hm⟩ := hrel
    by_cases hlt : k < xs.length
    · rcases hv with ⟨_, rfl⟩ | ⟨sb, so, cap, rfl, h2, _, h4⟩
      · simp at hlt
      · rcases hu with ⟨_, rfl⟩ | ⟨tb, to, dap, rfl, g2, _, g4⟩
        · simp at hlt
        · have c1 := (cell_mod hm h2 (by simp)).trans (h4 k hlt)
          have c2 := (cell_mod hm g2 (by simp)).trans (g4 k hlt)
          clear h4 g4
          generalize xs[k] = x at *
          have h2 := hm.lt h2
          have g2 := hm.lt g2
          go_wp2_with fail
          have j1 := GW.cell1 (S := []) c1 h2 (by simp)
          have j2 := GW.cell1 (S := []) c2 g2 (by simp)
          refine wp_region_pure (by kernel_rfl) (by kernel_rfl) ?_
          refine stage_quiet 9 (by kernel_rfl) ?_
          simp only [List.take_succ_cons, List.take_zero, List.drop_succ_cons, List.drop_zero]
          repeat (go_big_quiet_step (fail))
          refine wpQuiet_nil ?_
          refine stage_nil fun w2 hm2 => ?_
          clear j1 j2
          go_wp2_with fail
          go_roundw
          case rel => exact ⟨k + 1, by omega, by go_num, hm.nil_then hm2⟩
          case measure => simp [intOf]; omega
    · clear hv hu
      go_wp2_with fail
      go_ret
      exact ⟨rfl, hm⟩
end Go.Proofs.Ytnlfcfobdefflaa
