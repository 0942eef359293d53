/- Generations: the definition's slots. -/
import Derived.Test.YtcdmapllligjhaaGenRTake
namespace Go.Proofs.Ytcdmapllligjhaa
open Go Go.RowKit Go.Stg

def gensOf (S : List Slot) : List Value := S.map fun s => .int .i64 s.1
def livesOf (S : List Slot) : List Value := S.map fun s => .bool s.2
/-- The definition's slots at block b. -/
structure RAt (w : World) (b : Nat) (first : Int) (S : List Slot) (F : List Int) (ret : Int) (gv lv fv : Value) : Prop where
  blk : w.heap[b]? = some (.cells #[.int .i64 first, gv, lv, fv, .int .i64 ret] 90 (0, 0))
  gen : w.ownsRow 0 3 1 gv S.length (gensOf S)
  live : w.ownsRow 0 4 1 lv S.length (livesOf S)
  free : IntsAt w fv F
  n1 : gv.ownBlock ≠ some b ∧ lv.ownBlock ≠ some b ∧ fv.ownBlock ≠ some b
  n2 : ∀ x, gv.ownBlock = some x → lv.ownBlock ≠ some x ∧ fv.ownBlock ≠ some x
  n3 : ∀ x, lv.ownBlock = some x → fv.ownBlock ≠ some x
def rfoot (b : Nat) (gv lv fv : Value) : List Nat := b :: (gv.ownBlock.toList ++ (lv.ownBlock.toList ++ fv.ownBlock.toList))
theorem IntsAt.lt {w : World} {v : Value} {xs : List Int} (h : IntsAt w v xs) : ∀ x, v.ownBlock = some x → x < w.heap.size := fun x hx => by
  rcases h with ⟨rfl, _⟩ | ⟨sb, so, cap, rfl, h2, _⟩
  · simp [Value.ownBlock] at hx
  · simp [Value.ownBlock] at hx; omega
theorem RAt.mod {w w' : World} {b : Nat} {first ret : Int} {S : List Slot} {F : List Int} {gv lv fv : Value} {T : List Nat} (h : RAt w b first S F ret gv lv fv) (hm : Mod T w w') (hT : ∀ x ∈ rfoot b gv lv fv, x ∉ T) : RAt w' b first S F ret gv lv fv :=
  ⟨hm.at h.blk (hT b (by simp [rfoot])), row_mod h.gen hm (fun g hg => hT g (by simp [rfoot, hg])), row_mod h.live hm (fun g hg => hT g (by simp [rfoot, hg])), h.free.mod hm (fun g hg => hT g (by simp [rfoot, hg])), h.n1, h.n2, h.n3⟩
theorem RAt.foot_lt {w : World} {b : Nat} {first ret : Int} {S : List Slot} {F : List Int} {gv lv fv : Value} (h : RAt w b first S F ret gv lv fv) : ∀ y ∈ rfoot b gv lv fv, y < w.heap.size := fun y hy => by
  simp only [rfoot, List.mem_cons, List.mem_append, Option.mem_toList] at hy
  rcases hy with rfl | hy | hy | hy
  · exact lt_of h.blk
  · exact (row_lt h.gen y hy).2
  · exact (row_lt h.live y hy).2
  · exact h.free.lt y hy
section
variable {w : World} {b : Nat} {first ret : Int} {S : List Slot} {F : List Int} {gv lv fv : Value} (h : RAt w b first S F ret gv lv fv)
include h
theorem rof_ok (k : Int) : Calls Try.prog 45 #[.pointer (some ⟨b, 0, none⟩), .int .i64 k] w fun e w' => e = .returned (.tuple #[.int .i64 (if liveN S k then (slotN S k.toNat).1 else 0), .bool (liveN S k)]) ∧ Mod [] w w' := by
  have hcb := cells_of h.blk
  have hln := fun ty w' => row_len (ty := ty) Try.underlying88 h.live w'
  go_enter Try.func45, Try.ntmps45
  by_cases h0 : k < 0
  · have hl : liveN S k = false := by unfold liveN; simp; omega
    rw [hl]
    go_wp2_with fail
    go_ret2
    exact ⟨rfl, Mod.refl _ _⟩
  · obtain ⟨j, rfl⟩ := Int.eq_ofNat_of_zero_le (show 0 ≤ k by omega)
    have hlj : liveN S (j : Int) = (slotN S j).2 := by simp [liveN]
    rw [hlj]
    by_cases h1 : j < S.length
    · obtain ⟨g1, cap1, rfl, _, _⟩ := row_pos h.live (by omega)
      obtain ⟨g2, cap2, rfl, _, _⟩ := row_pos h.gen (by omega)
      have cl := (h.live.cellAt j (by simpa using h1)).trans (show (livesOf S)[j]? = some (.bool (slotN S j).2) by simp [livesOf, slotN_at h1, h1])
      have cg := (h.gen.cellAt j (by simpa using h1)).trans (show (gensOf S)[j]? = some (.int .i64 (slotN S j).1) by simp [gensOf, slotN_at h1, h1])
      clear h
      rw [Int.toNat_natCast]
      generalize slotN S j = z at *
      rcases z with ⟨g, l⟩
      simp only at cl cg
      cases l with
      | true =>
        simp only [if_true]
        go_wp2_with fail
        go_ret2
        exact ⟨rfl, Mod.refl _ _⟩
      | false =>
        go_wp2_with fail
        go_ret2
        exact ⟨rfl, Mod.refl _ _⟩
    · rw [slotN_out (by omega)]
      go_wp2_with fail
      go_ret2
      exact ⟨rfl, Mod.refl _ _⟩
end
theorem same_ints {w : World} {a b : Value} {xs : List Int} (ha : IntsAt w a xs) (hb : IntsAt w b xs) : Calls Try.prog 42 #[a, b] w fun e w' => e = .returned (.bool true) ∧ Mod [] w w' := by
  have la := fun ty w => ha.len ty w
  have lb := fun ty w => hb.len ty w
  have hsm := ha.small
  go_enter Try.func42, Try.ntmps42
  go_wp2_with fail
  go_loopw [5] (fun i wr => ∃ k : Nat, k ≤ xs.length ∧ i = .int .i64 k ∧ Mod [] w wr) (fun i _ => xs.length - (intOf i).toNat)
  case atStart => exact ⟨0, by omega, rfl, Mod.refl _ _⟩
  case round =>
    obtain ⟨k, hk, rfl, hm⟩ := hrel
    by_cases hlt : k < xs.length
    · rcases ha.mod hm (by simp) with ⟨_, rfl⟩ | ⟨sa, oa, ca, rfl, a2, a3, a4⟩
      · simp at hlt
      · rcases hb.mod hm (by simp) with ⟨_, rfl⟩ | ⟨sb, ob, cb, rfl, b2, b3, b4⟩
        · simp at hlt
        · have ka := GW.cell1 (S := []) (a4 k hlt) a2 (by simp)
          have kb := GW.cell1 (S := []) (b4 k hlt) b2 (by simp)
          clear a4 b4 ha hb
          generalize xs[k] = x at *
          go_wp2_with fail
          refine wp_region_pure (by kernel_rfl) (by kernel_rfl) ?_
          refine stage_quiet 9 (by kernel_rfl) ?_
          simp only [List.take_succ_cons, List.take_zero, List.drop_succ_cons, List.drop_zero]
          repeat (go_big_quiet_step (fail))
          refine wpQuiet_nil ?_
          refine stage_nil fun w4 hm4 => ?_
          have hm5 := hm.nil_then hm4
          go_wp2_with fail
          go_roundw
          case rel => exact ⟨k + 1, by omega, by go_num, hm5⟩
          case measure => simp [intOf]; omega
    · go_wp2_with fail
      go_ret
      exact ⟨rfl, hm⟩
end Go.Proofs.Ytcdmapllligjhaa
