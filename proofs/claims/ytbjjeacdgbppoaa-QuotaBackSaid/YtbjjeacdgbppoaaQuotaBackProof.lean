/- QuotaBack: for every input, the law returns true and leaves its arguments as they were. No conditions. -/
import Derived.Test.YtbjjeacdgbppoaaQuotaBack
import Derived.Test.YtbjjeacdgbppoaaFrame
namespace Go.Proofs.Ytbjjeacdgbppoaa.quotaBack
open Go Go.RowKit Go.Stg Go.ChangeShapes Go.WideShapes Go.ChangeAt

theorem own : ownKnob Try.prog.godebug = none := by kernel_rfl

theorem open3 {W : World} {base : Nat} {v : Value} (h : Value.okWide Try.prog W .any base 22 v) : ∃ x : X3, v = .agg #[.int .u8 x.a, .int .u8 x.b, .int .u8 x.c] ∧ x.ok := by
  obtain ⟨ns, rfl, hn, hb⟩ := open_int_agg (ts := [5, 5, 5]) (k := .u8) (by kernel_rfl) (by kernel_rfl) (by kernel_rfl) (by simp) h
  match ns, hn with
  | [a, b, c], _ =>
    have ha := hb a (by simp)
    have hb' := hb b (by simp)
    have hc := hb c (by simp)
    simp [IntKind.min, IntKind.max, IntKind.signed, IntKind.bits] at ha hb' hc
    exact ⟨⟨a, b, c⟩, rfl, ha, hb', hc⟩

set_option maxRecDepth 100000 in
theorem lifted (os : Os) (started : os.Started) (H : Type) (enc : TypeId × Value → H) :
    ReturnsInHanded {} Try.checked os 4 .any (Rows.quotaBackSpec.pre6 enc Try.prog Try.f4 Rows.quotaBackRow.domain false) (Rows.quotaBackSpec.post enc Try.prog Try.f4 false true false false) := by
  refine returnsInHanded_of_change (C := Try.checked) own started (by kernel_rfl) Try.func4
    (ChangeSpec.witness6 (enc := enc) (C := Try.checked) false ⟨#[], #[.agg #[.int .u8 0, .int .u8 0, .int .u8 0], .agg #[.int .u8 0, .int .u8 0, .int .u8 0]], []⟩ 8 (by kernel_rfl) (by kernel_rfl) (by kernel_rfl) (by kernel_rfl)) ?_
  intro W base args ds gs before hval0 hW _ _
  have hval : ∀ (j : Nat) t v, Try.f4.params[j]? = some t → args[j]? = some v → Value.okWide Try.prog W .any base t v := hval0
  have hW' := hW
  obtain ⟨p, q, hA0, hV, rfl, hfz, hnd⟩ := hW
  have hA : DataW.TrodAll enc Try.prog W 0 (fun _ => true) true Try.f4.params.toList args.toList ds p := hA0
  rw [Try.params4] at hA hval
  obtain ⟨v0, vs0, d0, ds0, p0, q0, hargs, rfl, rfl, h0, r0⟩ := trodAll_cons hA
  obtain ⟨v1, vs1, d1, ds1, p1, q1, rfl, rfl, rfl, h1, r1⟩ := trodAll_cons r0
  obtain ⟨rfl, rfl, rfl⟩ := trodAll_nil r1
  obtain rfl : args = #[v0, v1] := by cases args; simp_all
  obtain ⟨rfl, rfl⟩ := trodVars_none hV
  obtain ⟨x0, rfl, k0⟩ := open3 (hval 0 22 v0 rfl rfl)
  obtain ⟨x1, rfl, k1⟩ := open3 (hval 1 22 v1 rfl rfl)
  refine (back_walk x0 x1 k0 k1 W).mono fun e W' ⟨he, hm⟩ => ?_
  subst he
  exact ⟨_, rfl, law_close (bt := 4) hW' (by kernel_rfl) (by rw [Try.params4]; intro t ht; simp at ht; subst ht; exact ⟨by kernel_rfl, of_decide_eq_true (by kernel_rfl)⟩) rfl hm rfl Try.underlying4 rfl⟩

theorem over : Rows.quotaBackRow.holds Try.pinned (OpenSpec.ofChange Rows.quotaBackSpec) :=
  OpenClaim.holds_of_wide 4 Try.f4 rfl rfl rfl rfl rfl rfl rfl ⟨rfl, rfl, rfl, rfl, rfl⟩ rfl rfl rfl rfl rfl (by kernel_rfl) Try.func4 (by kernel_rfl)
    (of_decide_eq_true (by kernel_rfl)) (by unfold Func.isWrapper; first | (rw [if_pos (by decide +kernel)]; kernel_rfl) | (rw [if_neg (by decide +kernel)]; exact ⟨rfl, rfl⟩))
    (fun os started H enc _ => lifted os started H enc)

theorem proved : Rows.QuotaBackSaid := over
#print axioms proved
end Go.Proofs.Ytbjjeacdgbppoaa.quotaBack
