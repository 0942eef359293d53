/- LayoutRaw: the walk of the law. -/
import Derived.Test.YtlnlclaoajjcbaaLaySame
namespace Go.Proofs.Ytlnlclaoajjcbaa
open Go Go.RowKit Go.Stg
theorem few_ok (len : Int) (v : Value) (fs : List Fld) (w : World) (h : FieldsAt w v fs) : Calls Try.prog 9 #[.agg #[.int .i64 len, v]] w fun e w' => e = .returned (.bool (decide (fs.length ≤ 40))) ∧ Mod [] w w' := by
  have hln := fun ty w => h.len ty w
  have hm0 := (Mod.refl [] w).alloc (.cells #[.int .i64 len, v] 24)
  clear h
  go_enter Try.func9, Try.ntmps9
  go_wp2_with fail
  go_ret
  refine ⟨?_, hm0⟩
  by_cases h : fs.length ≤ 40
  · rw [decide_eq_true h]
    have : ((fs.length : Int) ≤ 40) := by omega
    simp [this]
  · rw [decide_eq_false h]
    have : ¬ ((fs.length : Int) ≤ 40) := by omega
    simp [this]
theorem raw_walk (len : Int) (v : Value) (fs : List Fld) (i : Int) (w : World) (h : FieldsAt w v fs) (hn : -9223372036854775808 ≤ len) (hn2 : len ≤ 9223372036854775807) :
    Calls Try.prog 3 #[.agg #[.int .i64 len, v], .int .i64 i] w fun e w' => e = .returned (.bool true) ∧ Mod [] w w' := by
  have q0 := at_alloc w (.cells #[.int .i64 len, v] 24)
  have hm0 := (Mod.refl [] w).alloc (.cells #[.int .i64 len, v] 24)
  have hF := Lib.hid (few_ok len v fs _ (h.mod hm0))
  have hS := Lib.hid fun (w' : World) (hm : Mod [] w w') => same_ok len v fs i w' (h.mod hm) hn hn2
  clear h
  go_enter Try.func3, Try.ntmps3
  go_wp2_with fail
  refine hF.out.mono ?_
  rintro e w1 ⟨rfl, hm1⟩
  have q1 := hm1.at q0 (by simp)
  have hm1 := hm0.nil_then hm1
  clear hF q0 hm0
  by_cases h40 : fs.length ≤ 40
  · go_wp2_with fail
    refine (awake_ok _).mono ?_
    rintro e w2 ⟨rfl, hm2⟩
    have cb := cells_of (hm2.at q1 (by simp))
    have hm2 := hm1.nil_then hm2
    go_wp2_with fail
    refine (hS.out _ hm2).mono ?_
    rintro e w3 ⟨rfl, hm3⟩
    go_wp2_with fail
    go_ret
    exact ⟨rfl, hm2.nil_then hm3⟩
  · have h40 : ¬ (fs.length ≤ 40) := h40
    go_wp2_with fail
    refine (awake_ok _).mono ?_
    rintro e w2 ⟨rfl, hm2⟩
    go_wp2_with fail
    go_ret
    exact ⟨rfl, hm1.nil_then hm2⟩
end Go.Proofs.Ytlnlclaoajjcbaa
