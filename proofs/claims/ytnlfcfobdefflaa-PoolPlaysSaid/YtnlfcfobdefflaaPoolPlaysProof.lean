/- PoolPlays: for every input, the law returns true and leaves its arguments as they were. No conditions. -/
import Derived.Test.YtnlfcfobdefflaaPoolPlays
import Derived.Test.YtnlfcfobdefflaaPoolF
namespace Go.Proofs.Ytnlfcfobdefflaa.poolPlays
open Go Go.RowKit Go.Stg Go.ChangeShapes Go.WideShapes Go.ChangeAt

theorem open_items {H : Type} {enc : TypeId × Value → H} {W : World} {base : Nat} {v : Value} {d : DataW H} {ps : List MemPlace} (hval : Value.okWide Try.prog W .any base 45 v) (h : DataW.Trod enc Try.prog W 0 (fun _ => true) true 45 v d ps) : ∃ ds, ItemsAt W v ds := by
  rcases open_slice_val Try.underlying45 hval with rfl | ⟨sb, so, len, cap, rfl, h1, h2, h3⟩
  · exact ⟨[], .inl ⟨rfl, rfl⟩, by simp⟩
  · obtain ⟨fuel, hf⟩ := h
    have hcs : (Value.slice (some ⟨sb, so, none⟩) len cap).cells.toList = [.slice (some ⟨sb, so, none⟩) len cap] := rfl
    rw [hcs] at hf
    rcases open_ints Try.underlying45 Try.underlying3 (by kernel_rfl) hf with ⟨h0, _⟩ | ⟨a, len', cap', zs, h0, _, _, _, hz, _, hx, _⟩
    · simp at h0
    · simp at h0
      obtain ⟨rfl, rfl, rfl⟩ := h0
      simp at hz
      refine ⟨zs.take len, .inr ⟨sb, so, cap, by simp [hz, Nat.min_eq_left h2], h1, fun i u hi => ?_⟩, by simp; omega⟩
      rw [List.getElem?_map] at hi
      obtain ⟨s, hs, rfl⟩ := Option.map_eq_some_iff.1 hi
      obtain ⟨hj, e⟩ := List.getElem?_eq_some_iff.1 hs
      have hi' : i < len ∧ i < zs.length := by rw [List.length_take] at hj; omega
      have k := hx i hi'.2
      rw [add_at, List.getD_eq_getElem?_getD, List.getElem?_eq_getElem hi'.2] at k
      rw [← e]
      simp only [List.getElem_take]
      simpa using k

set_option maxRecDepth 100000 in
theorem lifted (os : Os) (started : os.Started) (H : Type) (enc : TypeId × Value → H) :
    ReturnsInHanded {} Try.checked os 5 .any (Rows.poolPlaysSpec.pre6 enc Try.prog Try.f5 Rows.poolPlaysRow.domain false) (Rows.poolPlaysSpec.post enc Try.prog Try.f5 false true false false) := by
  refine returnsInHanded_of_change (C := Try.checked) own started (by kernel_rfl) Try.func5
    (ChangeSpec.witness6 (enc := enc) (C := Try.checked) false ⟨#[], #[.slice none 0 0, .slice none 0 0, .int .u16 0], []⟩ 8 (by kernel_rfl) (by kernel_rfl) (by kernel_rfl) (by kernel_rfl)) ?_
  intro W base args ds gs before hval0 hW _ _
  have hval : ∀ (j : Nat) t v, Try.f5.params[j]? = some t → args[j]? = some v → Value.okWide Try.prog W .any base t v := hval0
  have hW' := hW
  obtain ⟨p, q, hA0, hV, rfl, hfz, hnd⟩ := hW
  have hA : DataW.TrodAll enc Try.prog W 0 (fun _ => true) true Try.f5.params.toList args.toList ds p := hA0
  rw [Try.params5] at hA hval
  obtain ⟨v0, vs0, d0, ds0, p0, q0, hargs, rfl, rfl, h0, r0⟩ := trodAll_cons hA
  obtain ⟨v1, vs1, d1, ds1, p1, q1, rfl, rfl, rfl, h1, r1⟩ := trodAll_cons r0
  obtain ⟨v2, vs2, d2, ds2, p2, q2, rfl, rfl, rfl, h2, r2⟩ := trodAll_cons r1
  obtain ⟨rfl, rfl, rfl⟩ := trodAll_nil r2
  obtain rfl : args = #[v0, v1, v2] := by cases args; simp_all
  obtain ⟨rfl, rfl⟩ := trodVars_none hV
  obtain ⟨ns, k0⟩ := open_items (hval 0 45 v0 rfl rfl) h0
  obtain ⟨xs, k1⟩ := open_draws (hval 1 23 v1 rfl rfl) h1
  obtain ⟨x2, rfl, c1, c2⟩ := cell_int (k := .u16) Try.underlying46 (hval 2 46 v2 rfl rfl)
  simp [IntKind.min, IntKind.max, IntKind.signed, IntKind.bits] at c1 c2
  refine (plays_walk v0 v1 ns xs x2 c1 c2 W k0 k1).mono fun e W' ⟨he, hm⟩ => ?_
  subst he
  exact ⟨_, rfl, law_close (bt := 4) hW' (by kernel_rfl) (by rw [Try.params5]; intro t ht; simp at ht; rcases ht with rfl | rfl | rfl <;> exact ⟨by kernel_rfl, of_decide_eq_true (by kernel_rfl)⟩) rfl hm rfl Try.underlying4 rfl⟩

theorem over : Rows.poolPlaysRow.holds Try.pinned (OpenSpec.ofChange Rows.poolPlaysSpec) :=
  OpenClaim.holds_of_wide 5 Try.f5 rfl rfl rfl rfl rfl rfl rfl ⟨rfl, rfl, rfl, rfl, rfl⟩ rfl rfl rfl rfl rfl (by kernel_rfl) Try.func5 (by kernel_rfl)
    (of_decide_eq_true (by kernel_rfl)) (by unfold Func.isWrapper; first | (rw [if_pos (by decide +kernel)]; kernel_rfl) | (rw [if_neg (by decide +kernel)]; exact ⟨rfl, rfl⟩))
    (fun os started H enc _ => lifted os started H enc)

theorem proved : Rows.PoolPlaysSaid := over
#print axioms proved
end Go.Proofs.Ytnlfcfobdefflaa.poolPlays
