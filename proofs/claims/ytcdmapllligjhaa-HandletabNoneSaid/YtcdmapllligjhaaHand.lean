/- Handles: their parts, and packing, of the program and of the definition. -/
import Derived.Test.YtcdmapllligjhaaPoolG
import Derived.Laws.BitsLemmas
import Derived.Laws.Bits64
namespace Go.Proofs.Ytcdmapllligjhaa
open Go Go.RowKit Go.Stg

def hSlot (h : Int) : Int := h % 16777216
def hGen (h : Int) : Int := h / 16777216 % 4294967296
def hTag (h : Int) : Int := h / 72057594037927936
def packI (s g t : Int) : Int := t * 72057594037927936 + g * 16777216 + s
theorem wraps_u64 (n : Int) (h₀ : 0 ≤ n) (h₁ : n < 2 ^ 64) : IntKind.u64.wrap n = n := by rw [IntKind.wrap_u64]; omega
theorem and_mask (i : Nat) (hi : i ≤ 64) (x : Int) (h0 : 0 ≤ x) (h1 : x ≤ 18446744073709551615) : bits .and .u64 x (2 ^ i - 1) = x % 2 ^ i := bits_mask .u64 64 (by decide) wraps_u64 i hi x h0 (by omega)
theorem or_low (i : Nat) (x y : Int) (hx0 : 0 ≤ x) (hx : x % 2 ^ i = 0) (hx1 : x ≤ 18446744073709551615) (hy0 : 0 ≤ y) (hy : y < 2 ^ i) (hy1 : y ≤ 18446744073709551615) : bits .or .u64 y x = y + x := by
  have h := bits_join .u64 64 (by decide) wraps_u64 i x y hx0 hx (by omega) hy0 hy (by omega)
  obtain ⟨a, rfl⟩ := Int.eq_ofNat_of_zero_le hx0
  obtain ⟨b, rfl⟩ := Int.eq_ofNat_of_zero_le hy0
  rw [(bits_nat .u64 64 (by decide) wraps_u64 b a (by omega) (by omega)).2, Nat.or_comm, ← (bits_nat .u64 64 (by decide) wraps_u64 a b (by omega) (by omega)).2, h]
  omega
section
variable (h : Int) (h0 : 0 ≤ h) (h1 : h ≤ 18446744073709551615) (w : World)
include h0 h1
theorem slot_ok : Calls Try.prog 33 #[.int .u64 h] w fun e w' => e = .returned (.int .i64 (hSlot h)) ∧ Mod [] w w' := by
  have e := and_mask 24 (by omega) h h0 h1
  simp only [Int.reducePow, Int.reduceSub] at e
  unfold hSlot
  go_enter Try.func33, Try.ntmps33
  go_wp2_with fail
  go_ret
  exact ⟨rfl, Mod.refl _ _⟩
theorem gen_ok : Calls Try.prog 37 #[.int .u64 h] w fun e w' => e = .returned (.int .i64 (hGen h)) ∧ Mod [] w w' := by
  have e := and_mask 32 (by omega) (h / 16777216) (by omega) (by omega)
  simp only [Int.reducePow, Int.reduceSub] at e
  unfold hGen
  go_enter Try.func37, Try.ntmps37
  go_wp2_with fail
  go_ret
  exact ⟨rfl, Mod.refl _ _⟩
theorem tag_ok : Calls Try.prog 38 #[.int .u64 h] w fun e w' => e = .returned (.int .i64 (hTag h)) ∧ Mod [] w w' := by
  go_enter Try.func38, Try.ntmps38
  go_wp2_with fail
  go_ret
  exact ⟨rfl, Mod.refl _ _⟩
theorem rslot_ok : Calls Try.prog 14 #[.int .u64 h] w fun e w' => e = .returned (.int .i64 (hSlot h)) ∧ Mod [] w w' := by
  go_enter Try.func14, Try.ntmps14
  go_wp2_with fail
  go_ret
  exact ⟨rfl, Mod.refl _ _⟩
theorem rgen_ok : Calls Try.prog 46 #[.int .u64 h] w fun e w' => e = .returned (.int .i64 (hGen h)) ∧ Mod [] w w' := by
  go_enter Try.func46, Try.ntmps46
  go_wp2_with fail
  go_ret
  exact ⟨rfl, Mod.refl _ _⟩
end
section
variable (s g t : Int) (hs : 0 ≤ s ∧ s ≤ 16777215) (hg : 1 ≤ g ∧ g ≤ 4294967295) (ht : 1 ≤ t ∧ t ≤ 255) (w : World)
include hs hg ht
theorem packl_ok : Calls Try.prog 54 #[.int .i64 s, .int .i64 g, .int .i64 t] w fun e w' => e = .returned (.int .u64 (packI s g t)) ∧ Mod [] w w' := by
  obtain ⟨s0, s1⟩ := hs
  obtain ⟨g0, g1⟩ := hg
  obtain ⟨t0, t1⟩ := ht
  have e1 := or_low 24 (g * 16777216) s (by omega) (by omega) (by omega) (by omega) (by omega) (by omega)
  have e2 := or_low 56 (t * 72057594037927936) (s + g * 16777216) (by omega) (by omega) (by omega) (by omega) (by omega) (by omega)
  have e3 : packI s g t = s + g * 16777216 + t * 72057594037927936 := by unfold packI; omega
  rw [e3]
  clear e3
  go_enter Try.func54, Try.ntmps54
  go_wp2_with fail
  go_ret
  exact ⟨rfl, Mod.refl _ _⟩
theorem pack_ok : Calls Try.prog 32 #[.int .i64 s, .int .i64 g, .int .i64 t] w fun e w' => e = .returned (.tuple #[.int .u64 (packI s g t), .int .i64 0]) ∧ Mod [] w w' := by
  have hP := Lib.hid (packl_ok s g t hs hg ht w)
  obtain ⟨s0, s1⟩ := hs
  obtain ⟨g0, g1⟩ := hg
  obtain ⟨t0, t1⟩ := ht
  go_enter Try.func32, Try.ntmps32
  go_wp2_with fail
  refine hP.out.mono ?_
  rintro e w1 ⟨rfl, hm⟩
  go_wp2_with fail
  go_ret2
  exact ⟨rfl, hm⟩
theorem rpack_ok : Calls Try.prog 56 #[.int .i64 s, .int .i64 g, .int .i64 t] w fun e w' => e = .returned (.tuple #[.int .u64 (packI s g t), .int .i64 0]) ∧ Mod [] w w' := by
  obtain ⟨s0, s1⟩ := hs
  obtain ⟨g0, g1⟩ := hg
  obtain ⟨t0, t1⟩ := ht
  go_enter Try.func56, Try.ntmps56
  go_wp2_with fail
  go_ret2
  exact ⟨rfl, Mod.refl _ _⟩
end
end Go.Proofs.Ytcdmapllligjhaa
