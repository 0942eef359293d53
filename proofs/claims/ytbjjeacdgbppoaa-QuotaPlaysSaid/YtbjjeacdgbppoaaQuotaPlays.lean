/- QuotaPlays returns true whatever its arguments: the walk. -/
import Derived.Test.YtbjjeacdgbppoaaQuotaExact
namespace Go.Proofs.Ytbjjeacdgbppoaa
open Go Go.RowKit Go.Stg

/-- A slice of steps that came in. -/
def StepsAt (w : World) (v : Value) (xs : List X5) : Prop :=
  (v = .slice none 0 0 ∧ xs = []) ∨ ∃ sb so cap, v = .slice (some ⟨sb, so, none⟩) xs.length cap ∧ sb < w.heap.size ∧ xs.length ≤ maxLen ∧
    ∀ i (h : i < xs.length), xs[i].ok ∧ w.cell? ⟨sb, so + i * 5, none⟩ = some (.int .u8 xs[i].a) ∧ w.cell? ⟨sb, so + i * 5 + 1, none⟩ = some (.int .u8 xs[i].b) ∧ w.cell? ⟨sb, so + i * 5 + 2, none⟩ = some (.int .u8 xs[i].c) ∧
      w.cell? ⟨sb, so + i * 5 + 3, none⟩ = some (.int .u8 xs[i].d) ∧ w.cell? ⟨sb, so + i * 5 + 4, none⟩ = some (.int .u8 xs[i].e)
theorem cell_mod {S : List Nat} {w w' : World} {b o : Nat} (hm : Mod S w w') (hb : b < w.heap.size) (hS : b ∉ S) : w'.cell? ⟨b, o, none⟩ = w.cell? ⟨b, o, none⟩ :=
  World.cell?_of_block (a := ⟨b, o, none⟩) (hm.block b hb hS)
theorem StepsAt.len {w0 : World} {v : Value} {xs : List X5} (h : StepsAt w0 v xs) (ty : TypeId) (w : World) : (Builtin.len_ #[33] ty #[v]).run Try.prog w = .ok (.int .i64 xs.length) w := by
  rcases h with ⟨rfl, rfl⟩ | ⟨sb, so, cap, rfl, _⟩ <;> simp [Builtin.len_, run_underlying Try.underlying33, goInt]
theorem StepsAt.mod {S : List Nat} {w w' : World} {v : Value} {xs : List X5} (h : StepsAt w v xs) (hm : Mod S w w') (hS : ∀ x, x ∈ S → w.heap.size ≤ x) : StepsAt w' v xs := by
  rcases h with h | ⟨sb, so, cap, h1, h2, h3, h4⟩
  · exact .inl h
  · have hn : sb ∉ S := fun h => by have := hS sb h; omega
    refine .inr ⟨sb, so, cap, h1, hm.lt h2, h3, fun i hi => ?_⟩
    obtain ⟨a0, a1, a2, a3, a4, a5⟩ := h4 i hi
    exact ⟨a0, by rw [cell_mod hm h2 hn]; exact a1, by rw [cell_mod hm h2 hn]; exact a2, by rw [cell_mod hm h2 hn]; exact a3, by rw [cell_mod hm h2 hn]; exact a4, by rw [cell_mod hm h2 hn]; exact a5⟩

set_option maxHeartbeats 4000000 in
theorem plays_walk (l : X3) (hl : l.ok) (sv : Value) (xs : List X5) (w : World) (hs : StepsAt w sv xs) :
    Calls Try.prog 5 #[.agg #[.int .u8 l.a, .int .u8 l.b, .int .u8 l.c], sv] w fun e w' => e = .returned (.bool true) ∧ Mod [] w w' := by
  obtain ⟨⟨l1, l2⟩, ⟨l3, l4⟩, l5, l6⟩ := hl
  have hli : Q.i64 ⟨l.a, l.b % 9, l.c % 9⟩ := by simp only [Q.i64]; omega
  go_enter Try.func5, Try.ntmps5
  go_wp2_with fail
  refine (New_any ⟨l.a, l.b % 9, l.c % 9⟩ _ hli).mono ?_
  rintro e w1 ⟨b, rfl, hm1, hb, hM⟩
  have hmw := ((Mod.refl [] w).alloc (.cells #[.int .u8 l.a, .int .u8 l.b, .int .u8 l.c] 22 (0, 0))).alloc (.cells #[.int .i64 l.a, .int .i64 (l.b % 9), .int .i64 (l.c % 9)] 24 (0, 0)) |>.nil_then hm1
  have k1 := hm1.at (at_alloc (w.alloc (.cells #[.int .u8 l.a, .int .u8 l.b, .int .u8 l.c] 22 (0, 0))) (.cells #[.int .i64 l.a, .int .i64 (l.b % 9), .int .i64 (l.c % 9)] 24 (0, 0))) (by simp)
  simp only [World.size_alloc] at k1 hb
  have j1 := cells_of k1
  clear hm1 k1
  generalize l.b % 9 = lb at *
  generalize l.c % 9 = lc at *
  go_wp2_with fail
  have hlb := lt_of hM.blk
  have hm2 := hmw.alloc (.cells #[.int .i64 l.a, .int .i64 lb, .int .i64 lc, .slice none 0 0] 37 (0, 0))
  have hMV := hM.mod ((Mod.refl [] w1).alloc (.cells #[.int .i64 l.a, .int .i64 lb, .int .i64 lc, .slice none 0 0] 37 (0, 0))) (by simp)
  have hrb := at_alloc w1 (.cells #[.int .i64 l.a, .int .i64 lb, .int .i64 lc, .slice none 0 0] 37 (0, 0))
  have hsz := hmw.size
  have hne : b ≠ w1.heap.size := by omega
  clear hM hmw j1
  generalize w1.alloc (.cells #[.int .i64 l.a, .int .i64 lb, .int .i64 lc, .slice none 0 0] 37 (0, 0)) = V at *
  generalize hr : w1.heap.size = rb at *
  have hP0 : Pair [b, rb] V b rb ⟨l.a, lb, lc⟩ (fun _ => Q.zero) [] V :=
    ⟨none, .slice none 0 0, Mod.refl _ _, hMV, ⟨hli, hrb, World.ownsRow_nil _ _ _ _, by simp [Value.ownBlock], by simp⟩, by simp, by simp, hne, by simp, by simp [Value.ownBlock], by simp, by simp, by simp [Value.ownBlock]⟩
  have hln := fun ty w => hs.len ty w
  have hlm : xs.length ≤ maxLen := by
    rcases hs with ⟨_, rfl⟩ | ⟨_, _, _, _, _, h, _⟩
    · simp
    · exact h
  unfold maxLen at hlm
  have hrw : w.heap.size ≤ rb := by omega
  clear hMV hrb hr
  go_loopw [8] (fun i wr => ∃ k : Nat, k ≤ xs.length ∧ k ≤ 40 ∧ i = .int .i64 k ∧ ∃ f L, Pair [b, rb] V b rb ⟨l.a, lb, lc⟩ f L wr ∧ Agree f L ∧ L.length ≤ 2 * k) (fun i _ => 40 - (intOf i).toNat)
  case atStart => exact ⟨0, by omega, by omega, rfl, _, _, hP0, fun _ => rfl, by simp⟩
  case round =>
    obtain ⟨k, hk1, hk2, rfl, f, L, hP, hA, hL⟩ := hrel
    by_cases hlt : k < xs.length
    · by_cases hlt2 : k < 40
      · have hmr := hm2.then hP.mod (by simp; omega)
        have hsr := hs.mod hmr (by simp)
        rcases hsr with ⟨_, rfl⟩ | ⟨sb, so, cap, rfl, h2, h3, h4⟩
        · simp at hlt
        · obtain ⟨hx, c0, c1, c2, c3, c4⟩ := h4 k hlt
          clear h4 hP0 hs
          generalize xs[k] = x at *
          go_wp2_with fail
          refine (step_any hP hA (by omega) x hx).mono ?_
          rintro e w3 ⟨rfl, hP3⟩
          have hA3 := hA.step ⟨l.a, lb, lc⟩ x
          have hL3 := stepL_length ⟨l.a, lb, lc⟩ L x
          generalize stepF ⟨l.a, lb, lc⟩ f x = f3 at *
          generalize stepL ⟨l.a, lb, lc⟩ L x = L3 at *
          clear hP hA c0 c1 c2 c3 c4 hmr
          go_wp2_with fail
          go_loopw [9] (fun j w4 => ∃ q : Nat, q ≤ 4 ∧ j = .int .i64 q ∧ Pair [b, rb] V b rb ⟨l.a, lb, lc⟩ f3 L3 w4) (fun j _ => 4 - (intOf j).toNat)
          case atStart => exact ⟨0, by omega, rfl, hP3⟩
          case round =>
            obtain ⟨q, hq, rfl, hP4⟩ := hrel
            by_cases hq4 : q < 4
            · have HA := Lib.hid (hA3 q)
              go_wp2_with fail
              refine (Pair_Get hP4 q).mono ?_
              rintro e w5 ⟨rfl, hP5⟩
              go_wp2_with fail
              refine (Pair_RGet hP5 q).mono ?_
              rw [← HA.out]
              rintro e w6 ⟨rfl, hP6⟩
              clear hA3 hP4 hP5 HA
              go_wp2_with fail
              go_roundw
              case rel => exact ⟨q + 1, by omega, by go_num, hP6⟩
              case measure => simp [intOf]; omega
            · go_wp2_with fail
              go_roundw
              case rel => exact ⟨k + 1, by omega, by omega, by go_num, f3, L3, hP4, hA3, by omega⟩
              case measure => simp [intOf]; omega
      · have hmr := hm2.then hP.mod (by simp; omega)
        clear hP hA hP0
        go_wp2_with fail
        refine (awake_any _).mono ?_
        rintro e w3 ⟨rfl, hm3⟩
        go_wp2_with fail
        go_ret
        exact ⟨rfl, hmr.nil_then hm3⟩
    · have hmr := hm2.then hP.mod (by simp; omega)
      clear hP hA hP0
      go_wp2_with fail
      refine (awake_any _).mono ?_
      rintro e w3 ⟨rfl, hm3⟩
      go_wp2_with fail
      go_ret
      exact ⟨rfl, hmr.nil_then hm3⟩
end Go.Proofs.Ytbjjeacdgbppoaa
