/- BorrowRaw: for every input, the law returns true and leaves its arguments as they were. No conditions. -/
import Derived.Test.YtappkiiihnaegaaBRaw
namespace Go.Proofs.Ytappkiiihnaegaa.borrowRaw
open Go Go.RowKit Go.Stg Go.ChangeShapes Go.WideShapes Go.ChangeAt

set_option maxRecDepth 100000 in
theorem lifted (os : Os) (started : os.Started) (H : Type) (enc : TypeId × Value → H) :
    ReturnsInHanded {} Try.checked os 8 .any (Rows.borrowRawSpec.pre6 enc Try.prog Try.f8 Rows.borrowRawRow.domain false) (Rows.borrowRawSpec.post enc Try.prog Try.f8 false true false false) := by
  refine returnsInHanded_of_change (C := Try.checked) own started (by kernel_rfl) Try.func8
    (ChangeSpec.witness6 (enc := enc) (C := Try.checked) false ⟨#[], #[.slice none 0 0, .int .i64 0, .int .i64 0, .int .i64 0, .int .i64 0, .bool false], []⟩ 8 (by kernel_rfl) (by kernel_rfl) (by kernel_rfl) (by kernel_rfl)) ?_
  intro W base args ds gs before hval0 hW _ _
  have hval : ∀ (j : Nat) t v, Try.f8.params[j]? = some t → args[j]? = some v → Value.okWide Try.prog W .any base t v := hval0
  have hW' := hW
  obtain ⟨p, q, hA0, hV, rfl, hfz, hnd⟩ := hW
  have hA : DataW.TrodAll enc Try.prog W 0 (fun _ => true) true Try.f8.params.toList args.toList ds p := hA0
  rw [Try.params8] at hA hval
  obtain ⟨v0, vs0, d0, ds0, p0, q0, hargs, rfl, rfl, h0, r0⟩ := trodAll_cons hA
  obtain ⟨v1, vs1, d1, ds1, p1, q1, rfl, rfl, rfl, h1, r1⟩ := trodAll_cons r0
  obtain ⟨v2, vs2, d2, ds2, p2, q2, rfl, rfl, rfl, h2, r2⟩ := trodAll_cons r1
  obtain ⟨v3, vs3, d3, ds3, p3, q3, rfl, rfl, rfl, h3, r3⟩ := trodAll_cons r2
  obtain ⟨v4, vs4, d4, ds4, p4, q4, rfl, rfl, rfl, h4, r4⟩ := trodAll_cons r3
  obtain ⟨v5, vs5, d5, ds5, p5, q5, rfl, rfl, rfl, h5, r5⟩ := trodAll_cons r4
  obtain ⟨rfl, rfl, rfl⟩ := trodAll_nil r5
  obtain rfl : args = #[v0, v1, v2, v3, v4, v5] := by cases args; simp_all
  obtain ⟨rfl, rfl⟩ := trodVars_none hV
  obtain ⟨x1, rfl, b1, c1⟩ := cell_int (k := .i64) Try.underlying3 (hval 1 3 v1 rfl rfl)
  obtain ⟨x2, rfl, b2, c2⟩ := cell_int (k := .i64) Try.underlying3 (hval 2 3 v2 rfl rfl)
  obtain ⟨x3, rfl, b3, c3⟩ := cell_int (k := .i64) Try.underlying3 (hval 3 3 v3 rfl rfl)
  obtain ⟨x4, rfl, b4, c4⟩ := cell_int (k := .i64) Try.underlying3 (hval 4 3 v4 rfl rfl)
  obtain ⟨x5, rfl⟩ := cell_bool (hval 5 4 v5 rfl rfl)
  obtain ⟨xs0, k0⟩ := open_steps4 (hval 0 34 v0 rfl rfl) h0
  refine (raw_walk v0 xs0 x1 x2 x3 x4 x5 W k0).mono fun e W' ⟨he, hm⟩ => ?_
  subst he
  exact ⟨_, rfl, law_close (bt := 4) hW' (by kernel_rfl) (by rw [Try.params8]; intro t ht; simp at ht; rcases ht with rfl | rfl | rfl <;> exact ⟨by kernel_rfl, of_decide_eq_true (by kernel_rfl)⟩) rfl hm rfl Try.underlying4 rfl⟩

theorem over : Rows.borrowRawRow.holds Try.pinned (OpenSpec.ofChange Rows.borrowRawSpec) :=
  OpenClaim.holds_of_wide 8 Try.f8 rfl rfl rfl rfl rfl rfl rfl ⟨rfl, rfl, rfl, rfl, rfl⟩ rfl rfl rfl rfl rfl (by kernel_rfl) Try.func8 (by kernel_rfl)
    (of_decide_eq_true (by kernel_rfl)) (by unfold Func.isWrapper; first | (rw [if_pos (by decide +kernel)]; kernel_rfl) | (rw [if_neg (by decide +kernel)]; exact ⟨rfl, rfl⟩))
    (fun os started H enc _ => lifted os started H enc)

theorem proved : Rows.BorrowRawSaid := over
#print axioms proved
end Go.Proofs.Ytappkiiihnaegaa.borrowRaw
