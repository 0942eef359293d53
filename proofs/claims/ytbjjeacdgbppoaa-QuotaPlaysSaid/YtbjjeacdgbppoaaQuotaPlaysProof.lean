/- QuotaPlays: for every input, the law returns true and leaves its arguments as they were. No conditions. -/
import Derived.Test.YtbjjeacdgbppoaaQuotaPlays
import Derived.Test.YtbjjeacdgbppoaaFrame
namespace Go.Proofs.Ytbjjeacdgbppoaa.quotaPlays
open Go Go.RowKit Go.Stg Go.ChangeShapes Go.WideShapes Go.ChangeAt

theorem open_steps {H : Type} {enc : TypeId × Value → H} {W : World} {base : Nat} {v : Value} {d : DataW H} {ps : List MemPlace} (hval : Value.okWide Try.prog W .any base 33 v) (h : DataW.Trod enc Try.prog W 0 (fun _ => true) true 33 v d ps) : ∃ xs, StepsAt W v xs := by
  rcases open_int_rows (n := 5) (k := .u8) Try.underlying33 Try.underlying39 Try.underlying5 (by kernel_rfl) (by kernel_rfl) hval h with rfl | ⟨sb, so, len, cap, g, rfl, h1, h2, h3, h4⟩
  · exact ⟨[], .inl ⟨rfl, rfl⟩⟩
  · refine ⟨(List.range len).map fun i => ⟨g i 0, g i 1, g i 2, g i 3, g i 4⟩, .inr ⟨sb, so, cap, by simp, h1, by simp; omega, fun i hi => ?_⟩⟩
    have hi' : i < len := by simpa using hi
    have k := fun j (hj : j < 5) => h4 i hi' j hj
    simp only [IntKind.min, IntKind.max, IntKind.signed, IntKind.bits] at k
    have k0 := k 0 (by omega)
    have k1 := k 1 (by omega)
    have k2 := k 2 (by omega)
    have k3 := k 3 (by omega)
    have k4 := k 4 (by omega)
    simp at k0 k1 k2 k3 k4
    simp only [List.getElem_map, List.getElem_range]
    exact ⟨⟨k0.2, k1.2, k2.2, k3.2, k4.2⟩, k0.1, k1.1, k2.1, k3.1, k4.1⟩

theorem own : ownKnob Try.prog.godebug = none := by kernel_rfl

theorem open3 {W : World} {base : Nat} {v : Value} (h : Value.okWide Try.prog W .any base 22 v) : ∃ x : X3, v = .agg #[.int .u8 x.a, .int .u8 x.b, .int .u8 x.c] ∧ x.ok := by
  obtain ⟨ns, rfl, hn, hb⟩ := open_int_agg (ts := [5, 5, 5]) (k := .u8) (by kernel_rfl) (by kernel_rfl) (by kernel_rfl) (by simp) h
  match ns, hn with
  | [a, b, c], _ =>
    have ha := hb a (by simp)
    have hb' := hb b (by simp)
    have hc := hb c (by simp)
    simp [IntKind.min, IntKind.max, IntKind.signed, IntKind.bits] at ha hb' hc
    exact ⟨⟨a, b, c⟩, rfl, ha, hb', hc⟩

set_option maxRecDepth 100000 in
theorem lifted (os : Os) (started : os.Started) (H : Type) (enc : TypeId × Value → H) :
    ReturnsInHanded {} Try.checked os 5 .any (Rows.quotaPlaysSpec.pre6 enc Try.prog Try.f5 Rows.quotaPlaysRow.domain false) (Rows.quotaPlaysSpec.post enc Try.prog Try.f5 false true false false) := by
  refine returnsInHanded_of_change (C := Try.checked) own started (by kernel_rfl) Try.func5
    (ChangeSpec.witness6 (enc := enc) (C := Try.checked) false ⟨#[], #[.agg #[.int .u8 0, .int .u8 0, .int .u8 0], .slice none 0 0], []⟩ 8 (by kernel_rfl) (by kernel_rfl) (by kernel_rfl) (by kernel_rfl)) ?_
  intro W base args ds gs before hval0 hW _ _
  have hval : ∀ (j : Nat) t v, Try.f5.params[j]? = some t → args[j]? = some v → Value.okWide Try.prog W .any base t v := hval0
  have hW' := hW
  obtain ⟨p, q, hA0, hV, rfl, hfz, hnd⟩ := hW
  have hA : DataW.TrodAll enc Try.prog W 0 (fun _ => true) true Try.f5.params.toList args.toList ds p := hA0
  rw [Try.params5] at hA hval
  obtain ⟨v0, vs0, d0, ds0, p0, q0, hargs, rfl, rfl, h0, r0⟩ := trodAll_cons hA
  obtain ⟨v1, vs1, d1, ds1, p1, q1, rfl, rfl, rfl, h1, r1⟩ := trodAll_cons r0
  obtain ⟨rfl, rfl, rfl⟩ := trodAll_nil r1
  obtain rfl : args = #[v0, v1] := by cases args; simp_all
  obtain ⟨rfl, rfl⟩ := trodVars_none hV
  obtain ⟨x0, rfl, k0⟩ := open3 (hval 0 22 v0 rfl rfl)
  obtain ⟨xs, k1⟩ := open_steps (hval 1 33 v1 rfl rfl) h1
  refine (plays_walk x0 k0 v1 xs W k1).mono fun e W' ⟨he, hm⟩ => ?_
  subst he
  exact ⟨_, rfl, law_close (bt := 4) hW' (by kernel_rfl) (by rw [Try.params5]; intro t ht; simp at ht; rcases ht with rfl | rfl <;> exact ⟨by kernel_rfl, of_decide_eq_true (by kernel_rfl)⟩) rfl hm rfl Try.underlying4 rfl⟩

theorem over : Rows.quotaPlaysRow.holds Try.pinned (OpenSpec.ofChange Rows.quotaPlaysSpec) :=
  OpenClaim.holds_of_wide 5 Try.f5 rfl rfl rfl rfl rfl rfl rfl ⟨rfl, rfl, rfl, rfl, rfl⟩ rfl rfl rfl rfl rfl (by kernel_rfl) Try.func5 (by kernel_rfl)
    (of_decide_eq_true (by kernel_rfl)) (by unfold Func.isWrapper; first | (rw [if_pos (by decide +kernel)]; kernel_rfl) | (rw [if_neg (by decide +kernel)]; exact ⟨rfl, rfl⟩))
    (fun os started H enc _ => lifted os started H enc)

theorem proved : Rows.QuotaPlaysSaid := over
#print axioms proved
end Go.Proofs.Ytbjjeacdgbppoaa.quotaPlays
