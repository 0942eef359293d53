/- PoolKinds: for every input, the law returns true and leaves its arguments as they were. No conditions. -/
import Derived.Test.YtnlfcfobdefflaaPoolKindsW
import Derived.Test.YtnlfcfobdefflaaPoolF
import Derived.SliceStrings
namespace Go.Proofs.Ytnlfcfobdefflaa.poolKinds
open Go Go.RowKit Go.Stg Go.ChangeShapes Go.WideShapes Go.ChangeAt

theorem open_names {H : Type} {enc : TypeId × Value → H} {W : World} {base : Nat} {v : Value} {d : DataW H} {ps : List MemPlace} (hval : Value.okWide Try.prog W .any base 22 v) (h : DataW.Trod enc Try.prog W 0 (fun _ => true) true 22 v d ps) : ∃ ns, NamesAt W v ns := by
  rcases open_slice_val Try.underlying22 hval with rfl | ⟨sb, so, len, cap, rfl, h1, h2, h3⟩
  · exact ⟨[], .inl ⟨rfl, rfl⟩⟩
  · obtain ⟨fuel, hf⟩ := h
    have hcs : (Value.slice (some ⟨sb, so, none⟩) len cap).cells.toList = [.slice (some ⟨sb, so, none⟩) len cap] := rfl
    rw [hcs] at hf
    rcases open_strings Try.underlying22 Try.underlying9 (by kernel_rfl) hf with ⟨h0, _⟩ | ⟨a, len', cap', zs, h0, _, _, _, hz, _, hx, _⟩
    · simp at h0
    · simp at h0
      obtain ⟨rfl, rfl, rfl⟩ := h0
      simp at hz
      refine ⟨zs.take len, .inr ⟨sb, so, cap, by simp [hz, Nat.min_eq_left h2], h1, by simp; omega, fun i hi => ?_⟩⟩
      have hi' : i < len ∧ i < zs.length := by rw [List.length_take] at hi; omega
      have k := hx i hi'.2
      rw [add_at, List.getD_eq_getElem?_getD, List.getElem?_eq_getElem hi'.2] at k
      simp only [List.getElem_take]
      simpa using k

set_option maxRecDepth 100000 in
theorem lifted (os : Os) (started : os.Started) (H : Type) (enc : TypeId × Value → H) :
    ReturnsInHanded {} Try.checked os 3 .any (Rows.poolKindsSpec.pre6 enc Try.prog Try.f3 Rows.poolKindsRow.domain false) (Rows.poolKindsSpec.post enc Try.prog Try.f3 false true false false) := by
  refine returnsInHanded_of_change (C := Try.checked) own started (by kernel_rfl) Try.func3
    (ChangeSpec.witness6 (enc := enc) (C := Try.checked) false ⟨#[], #[.slice none 0 0, .slice none 0 0], []⟩ 8 (by kernel_rfl) (by kernel_rfl) (by kernel_rfl) (by kernel_rfl)) ?_
  intro W base args ds gs before hval0 hW _ _
  have hval : ∀ (j : Nat) t v, Try.f3.params[j]? = some t → args[j]? = some v → Value.okWide Try.prog W .any base t v := hval0
  have hW' := hW
  obtain ⟨p, q, hA0, hV, rfl, hfz, hnd⟩ := hW
  have hA : DataW.TrodAll enc Try.prog W 0 (fun _ => true) true Try.f3.params.toList args.toList ds p := hA0
  rw [Try.params3] at hA hval
  obtain ⟨v0, vs0, d0, ds0, p0, q0, hargs, rfl, rfl, h0, r0⟩ := trodAll_cons hA
  obtain ⟨v1, vs1, d1, ds1, p1, q1, rfl, rfl, rfl, h1, r1⟩ := trodAll_cons r0
  obtain ⟨rfl, rfl, rfl⟩ := trodAll_nil r1
  obtain rfl : args = #[v0, v1] := by cases args; simp_all
  obtain ⟨rfl, rfl⟩ := trodVars_none hV
  obtain ⟨ns, k0⟩ := open_names (hval 0 22 v0 rfl rfl) h0
  obtain ⟨xs, k1⟩ := open_draws (hval 1 23 v1 rfl rfl) h1
  refine (kinds_walk v0 v1 ns xs W k0 k1).mono fun e W' ⟨he, hm⟩ => ?_
  subst he
  exact ⟨_, rfl, law_close (bt := 4) hW' (by kernel_rfl) (by rw [Try.params3]; intro t ht; simp at ht; rcases ht with rfl | rfl <;> exact ⟨by kernel_rfl, of_decide_eq_true (by kernel_rfl)⟩) rfl hm rfl Try.underlying4 rfl⟩

theorem over : Rows.poolKindsRow.holds Try.pinned (OpenSpec.ofChange Rows.poolKindsSpec) :=
  OpenClaim.holds_of_wide 3 Try.f3 rfl rfl rfl rfl rfl rfl rfl ⟨rfl, rfl, rfl, rfl, rfl⟩ rfl rfl rfl rfl rfl (by kernel_rfl) Try.func3 (by kernel_rfl)
    (of_decide_eq_true (by kernel_rfl)) (by unfold Func.isWrapper; first | (rw [if_pos (by decide +kernel)]; kernel_rfl) | (rw [if_neg (by decide +kernel)]; exact ⟨rfl, rfl⟩))
    (fun os started H enc _ => lifted os started H enc)

theorem proved : Rows.PoolKindsSaid := over
#print axioms proved
end Go.Proofs.Ytnlfcfobdefflaa.poolKinds
