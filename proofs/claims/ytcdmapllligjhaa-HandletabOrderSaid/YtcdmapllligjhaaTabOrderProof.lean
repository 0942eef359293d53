/- HandletabOrder: for every input, the law returns true and leaves its arguments as they were. No conditions. -/
import Derived.Test.YtcdmapllligjhaaTabOrder
import Derived.Test.YtcdmapllligjhaaGenF
namespace Go.Proofs.Ytcdmapllligjhaa.handletabOrder
open Go Go.RowKit Go.Stg Go.ChangeShapes Go.WideShapes Go.ChangeAt

set_option maxRecDepth 100000 in
theorem lifted (os : Os) (started : os.Started) (H : Type) (enc : TypeId × Value → H) :
    ReturnsInHanded {} Try.checked os 4 .any (Rows.handletabOrderSpec.pre6 enc Try.prog Try.f4 Rows.handletabOrderRow.domain false) (Rows.handletabOrderSpec.post enc Try.prog Try.f4 false true false false) := by
  refine returnsInHanded_of_change (C := Try.checked) own started (by kernel_rfl) Try.func4
    (ChangeSpec.witness6 (enc := enc) (C := Try.checked) false ⟨#[], #[.int .u8 0, .int .u16 0, .int .u16 0, .int .u8 0, .int .u8 0], []⟩ 8 (by kernel_rfl) (by kernel_rfl) (by kernel_rfl) (by kernel_rfl)) ?_
  intro W base args ds gs before hval0 hW _ _
  have hval : ∀ (j : Nat) t v, Try.f4.params[j]? = some t → args[j]? = some v → Value.okWide Try.prog W .any base t v := hval0
  have hW' := hW
  obtain ⟨p, q, hA0, hV, rfl, hfz, hnd⟩ := hW
  have hA : DataW.TrodAll enc Try.prog W 0 (fun _ => true) true Try.f4.params.toList args.toList ds p := hA0
  rw [Try.params4] at hA hval
  obtain ⟨v0, vs0, d0, ds0, p0, q0, hargs, rfl, rfl, h0, r0⟩ := trodAll_cons hA
  obtain ⟨v1, vs1, d1, ds1, p1, q1, rfl, rfl, rfl, h1, r1⟩ := trodAll_cons r0
  obtain ⟨v2, vs2, d2, ds2, p2, q2, rfl, rfl, rfl, h2, r2⟩ := trodAll_cons r1
  obtain ⟨v3, vs3, d3, ds3, p3, q3, rfl, rfl, rfl, h3, r3⟩ := trodAll_cons r2
  obtain ⟨v4, vs4, d4, ds4, p4, q4, rfl, rfl, rfl, h4, r4⟩ := trodAll_cons r3
  obtain ⟨rfl, rfl, rfl⟩ := trodAll_nil r4
  obtain rfl : args = #[v0, v1, v2, v3, v4] := by cases args; simp_all
  obtain ⟨rfl, rfl⟩ := trodVars_none hV
  obtain ⟨x0, rfl, a0, b0⟩ := cell_int (k := .u8) Try.underlying5 (hval 0 5 v0 rfl rfl)
  obtain ⟨x1, rfl, a1, b1⟩ := cell_int (k := .u16) Try.underlying30 (hval 1 30 v1 rfl rfl)
  obtain ⟨x2, rfl, a2, b2⟩ := cell_int (k := .u16) Try.underlying30 (hval 2 30 v2 rfl rfl)
  obtain ⟨x3, rfl, a3, b3⟩ := cell_int (k := .u8) Try.underlying5 (hval 3 5 v3 rfl rfl)
  obtain ⟨x4, rfl, a4, b4⟩ := cell_int (k := .u8) Try.underlying5 (hval 4 5 v4 rfl rfl)
  simp [IntKind.min, IntKind.max, IntKind.signed, IntKind.bits] at a0 b0 a1 b1 a2 b2 a3 b3 a4 b4
  refine (order_walk x0 x1 x2 x3 x4 a0 b0 a1 b1 a2 b2 a3 b3 a4 b4 W).mono fun e W' ⟨he, hm⟩ => ?_
  subst he
  exact ⟨_, rfl, law_close (bt := 4) hW' (by kernel_rfl) (by rw [Try.params4]; intro t ht; simp at ht; rcases ht with rfl | rfl | rfl <;> exact ⟨by kernel_rfl, of_decide_eq_true (by kernel_rfl)⟩) rfl hm rfl Try.underlying4 rfl⟩

theorem over : Rows.handletabOrderRow.holds Try.pinned (OpenSpec.ofChange Rows.handletabOrderSpec) :=
  OpenClaim.holds_of_wide 4 Try.f4 rfl rfl rfl rfl rfl rfl rfl ⟨rfl, rfl, rfl, rfl, rfl⟩ rfl rfl rfl rfl rfl (by kernel_rfl) Try.func4 (by kernel_rfl)
    (of_decide_eq_true (by kernel_rfl)) (by unfold Func.isWrapper; first | (rw [if_pos (by decide +kernel)]; kernel_rfl) | (rw [if_neg (by decide +kernel)]; exact ⟨rfl, rfl⟩))
    (fun os started H enc _ => lifted os started H enc)

theorem proved : Rows.HandletabOrderSaid := over
#print axioms proved
end Go.Proofs.Ytcdmapllligjhaa.handletabOrder
