/- Layouts: what the small functions compute. -/
import Derived.Test.YtkkjlioigdpacaaProg
import Derived.Test.YtkkjlioigdpacaaBase
import Derived.StillTailTactics
import Derived.WalkSpells
namespace Go.Proofs.Ytkkjlioigdpacaa
open Go Go.RowKit Go.Stg

/-- A field: its kind, its count. -/
abbrev Fld := Int × Int
def wid (f : Fld) : Int := if f.1 = 1 then 1 else if f.1 = 2 then 2 else if f.1 = 3 then 4 else if f.1 = 6 then f.2 else 8
def ali (f : Fld) : Int := if f.1 = 6 then 1 else wid f
def errF (f : Fld) : Int := if f.1 < 1 ∨ 6 < f.1 then 8 else if (f.1 = 6 ∧ f.2 < 1) ∨ (f.1 ≠ 6 ∧ f.2 ≠ 0) then 3 else if 65536 < f.2 then 4 else 0
def upI (n k : Int) : Int := (n + k - 1) / k * k
theorem good_of {f : Fld} (h : errF f = 0) : 1 ≤ f.1 ∧ f.1 ≤ 6 ∧ 1 ≤ wid f ∧ wid f ≤ 65536 ∧ (ali f = 1 ∨ ali f = 2 ∨ ali f = 4 ∨ ali f = 8) := by
  unfold errF at h
  split at h
  · simp at h
  · rename_i h1
    split at h
    · simp at h
    · rename_i h2
      split at h
      · simp at h
      · rename_i h3
        unfold ali wid
        repeat' split
        all_goals omega
theorem upI_bounds {n k : Int} (hk : 1 ≤ k) : n ≤ upI n k ∧ upI n k < n + k ∧ upI n k % k = 0 := by
  unfold upI
  have h1 := Int.mul_ediv_add_emod (n + k - 1) k
  have h2 := Int.emod_nonneg (n + k - 1) (show k ≠ 0 by omega)
  have h3 := Int.emod_lt_of_pos (n + k - 1) (show 0 < k by omega)
  rw [Int.mul_comm] at h1
  refine ⟨by omega, by omega, Int.mul_emod_left _ _⟩
def fv (f : Fld) : Value := .agg #[.int .i64 f.1, .int .i64 f.2]

theorem width_ok (k c : Int) (w : World) : Calls Try.prog 35 #[.agg #[.int .i64 k, .int .i64 c]] w fun e w' => e = .returned (.int .i64 (wid (k, c))) ∧ Mod [] w w' := by
  go_enter Try.func35, Try.ntmps35
  go_wp2
  all_goals go_ret
  all_goals refine ⟨?_, (Mod.refl _ _).alloc _⟩
  all_goals simp_all [wid]
theorem rwidth_ok (k c : Int) (hk : 1 ≤ k) (hk6 : k ≤ 6) (w : World) : Calls Try.prog 33 #[.agg #[.int .i64 k, .int .i64 c]] w fun e w' => e = .returned (.tuple #[.int .i64 (wid (k, c)), .int .i64 (ali (k, c))]) ∧ Mod [] w w' := by
  go_enter Try.func33, Try.ntmps33
  go_wp2
  all_goals go_ret2
  all_goals refine ⟨?_, (Mod.refl _ _).alloc _⟩
  all_goals simp_all [wid, ali]
  all_goals (have : k = 6 := by omega); subst this; simp
theorem ali_ok (k c : Int) (w : World) : Calls Try.prog 38 #[.agg #[.int .i64 k, .int .i64 c]] w fun e w' => e = .returned (.int .i64 (ali (k, c))) ∧ Mod [] w w' := by
  go_enter Try.func38, Try.ntmps38
  go_wp2_with (go_at_call 35; refine (width_ok _ _ _).mono ?_; rintro e w1 ⟨rfl, hm⟩)
  · go_ret
    refine ⟨?_, (Mod.refl _ _).alloc _⟩
    simp_all [ali]
  · go_ret
    refine ⟨?_, ((Mod.refl _ _).alloc _).nil_then hm⟩
    simp_all [ali]
theorem up_okUp (n k : Int) (hn : 0 ≤ n) (hn2 : n ≤ 100000000) (hk : 1 ≤ k) (hk2 : k ≤ 8) (w : World) : Calls Try.prog 39 #[.int .i64 n, .int .i64 k] w fun e w' => e = .returned (.int .i64 (upI n k)) ∧ Mod [] w w' := by
  have hu := upI_bounds (n := n) hk
  unfold upI at hu
  have hw : wrap64 ((n + k - 1) / k * k) = (n + k - 1) / k * k := by
    generalize (n + k - 1) / k * k = z at *
    unfold wrap64
    omega
  go_enter Try.func39, Try.ntmps39
  go_wp2
  go_ret
  refine ⟨?_, Mod.refl _ _⟩
  simp [upI]
theorem up_okRUp (n k : Int) (hn : 0 ≤ n) (hn2 : n ≤ 100000000) (hk : 1 ≤ k) (hk2 : k ≤ 8) (w : World) : Calls Try.prog 37 #[.int .i64 n, .int .i64 k] w fun e w' => e = .returned (.int .i64 (upI n k)) ∧ Mod [] w w' := by
  have hu := upI_bounds (n := n) hk
  unfold upI at hu
  have hw : wrap64 ((n + k - 1) / k * k) = (n + k - 1) / k * k := by
    generalize (n + k - 1) / k * k = z at *
    unfold wrap64
    omega
  go_enter Try.func37, Try.ntmps37
  go_wp2
  go_ret
  refine ⟨?_, Mod.refl _ _⟩
  simp [upI]
theorem checkF_ok (k c : Int) (w : World) : Calls Try.prog 30 #[.agg #[.int .i64 k, .int .i64 c]] w fun e w' => e = .returned (.int .i64 (errF (k, c))) ∧ Mod [] w w' := by
  go_enter Try.func30, Try.ntmps30
  go_wp2
  all_goals go_ret
  all_goals refine ⟨?_, (Mod.refl _ _).alloc _⟩
  all_goals simp_all [errF]
  all_goals (repeat' split)
  all_goals first | rfl | omega
end Go.Proofs.Ytkkjlioigdpacaa
