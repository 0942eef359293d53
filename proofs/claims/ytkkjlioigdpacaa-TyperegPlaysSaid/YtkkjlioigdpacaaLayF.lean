/- Layouts: a type that comes in. -/
import Derived.Test.YtkkjlioigdpacaaLayP
import Derived.Test.YtkkjlioigdpacaaFrame
import Derived.ChangeSlices
import Derived.ChangeSame
namespace Go.Proofs.Ytkkjlioigdpacaa
open Go Go.RowKit Go.Stg Go.ChangeShapes Go.WideShapes Go.ChangeAt
theorem add_atF (b o j : Nat) : (⟨b, o, none⟩ : Addr).add j = ⟨b, o + j, none⟩ := by unfold Addr.add; split <;> simp_all
theorem own : ownKnob Try.prog.godebug = none := by kernel_rfl
section
variable {H : Type} {enc : TypeId × Value → H}
theorem open_fields {fuel : Nat} {W : World} {base : Nat} {v : Value} {y : DataW H × List MemPlace} (hval : Value.okWide Try.prog W .any base 29 v) (hf : DataW.trod enc Try.prog W 0 (fun _ => true) true fuel 29 v.cells.toList = some y) : ∃ fs, FieldsAt W v fs := by
  rcases open_slice_val Try.underlying29 hval with rfl | ⟨sb, so, len, cap, rfl, h1, h2, h3⟩
  · exact ⟨[], .inl ⟨rfl, rfl⟩⟩
  · have hcs : (Value.slice (some ⟨sb, so, none⟩) len cap).cells.toList = [.slice (some ⟨sb, so, none⟩) len cap] := rfl
    rw [hcs] at hf
    rcases Deep.open_slice Try.underlying29 hf with ⟨h0, _⟩ | ⟨a, len', cap', m, fu, D, Pl, h0, _, _, _, hm, _, hx⟩
    · simp at h0
    · simp at h0
      obtain ⟨rfl, rfl, rfl⟩ := h0
      simp at hm
      have hC : Try.prog.cellsOf 28 = 2 := by kernel_rfl
      rw [hC] at hx
      have each : ∀ i, i < len → ∃ f : Fld, W.cell? ⟨sb, so + i * 2, none⟩ = some (.int .i64 f.1) ∧ W.cell? ⟨sb, so + i * 2 + 1, none⟩ = some (.int .i64 f.2) := by
        intro i hi
        obtain ⟨cs', hc, htr⟩ := hx i (by omega)
        obtain ⟨y0, y1, n, _, hlen, t0, t1⟩ := trod_struct2 Try.underlying28 htr
        rw [hC] at hlen
        match cs', hlen with
        | [c0, c1], _ =>
          simp at t0 t1
          have hC1 : Try.prog.cellsOf 3 = 1 := by kernel_rfl
          rw [hC1] at t0 t1
          simp at t0 t1
          obtain ⟨z0, e0, _, _⟩ := DataW.trod_int Try.underlying3 t0
          obtain ⟨z1, e1, _, _⟩ := DataW.trod_int Try.underlying3 t1
          simp at e0 e1
          subst e0 e1
          refine ⟨(z0, z1), ?_⟩
          unfold World.cells? at hc
          rw [if_pos (Nat.zero_le _)] at hc
          obtain ⟨hl2, hat⟩ := mapM_at hc
          obtain ⟨u0, hu0, hr0⟩ := hat 0 (by simp)
          obtain ⟨u1, hu1, hr1⟩ := hat 1 (by simp)
          simp at hu0 hu1 hr0 hr1
          subst hr0 hr1
          rw [add_atF, add_atF] at hu0 hu1
          exact ⟨hu0, hu1⟩
      refine ⟨(List.range len).map fun i => if h : i < len then (each i h).choose else (0, 0), .inr ⟨sb, so, cap, by simp, h1, by simp; omega, fun i hi => ?_⟩⟩
      have hi' : i < len := by simpa using hi
      simp only [List.getElem_map, List.getElem_range, dif_pos hi']
      exact (each i hi').choose_spec
theorem open_type {W : World} {base : Nat} {v : Value} {d : DataW H} {ps : List MemPlace} (hval : Value.okWide Try.prog W .any base 31 v) (h : DataW.Trod enc Try.prog W 0 (fun _ => true) true 31 v d ps) :
    ∃ len sv fs, v = .agg #[.int .i64 len, sv] ∧ FieldsAt W sv fs ∧ -9223372036854775808 ≤ len ∧ len ≤ 9223372036854775807 := by
  have hv : ∃ cs, v = .agg cs ∧ cs.size = Try.prog.cellsOf 31 ∧ Row.okWide Try.prog W .any base 31 cs := by
    unfold Value.okWide at hval
    split at hval
    · exact hval
    · exact hval
    · rename_i h1 h2
      exact absurd Try.underlying31 (h1 _)
  obtain ⟨cs, rfl, hsz, ts', hts', _, hrow⟩ := hv
  have hC : Try.prog.cellsOf 31 = 2 := by kernel_rfl
  have hts : Try.prog.cellTypes Try.prog.depth 31 = some [3, 29] := by kernel_rfl
  rw [hts] at hts'
  have : ts' = [3, 29] := (Option.some.inj hts').symm
  subst this
  rw [hC] at hsz
  obtain ⟨l⟩ := cs
  match l, hsz with
  | [c0, c1], _ =>
    obtain ⟨u0, hu0, k0⟩ := hrow 0 c0 rfl
    obtain ⟨u1, hu1, k1⟩ := hrow 1 c1 rfl
    simp at hu0 hu1
    subst hu0 hu1
    obtain ⟨n, rfl, b1, b2⟩ := cell_int (k := .i64) Try.underlying3 k0
    simp [IntKind.min, IntKind.max, IntKind.signed, IntKind.bits] at b1 b2
    have hv1 : Value.okWide Try.prog W .any base 29 c1 := by
      unfold Value.okWide
      rw [Try.underlying29]
      exact k1
    obtain ⟨fuel, hf⟩ := h
    have hcs : (Value.agg ⟨[.int .i64 n, c1]⟩).cells.toList = [.int .i64 n, c1] := rfl
    rw [hcs] at hf
    obtain ⟨y0, y1, m, _, hlen, t0, t1⟩ := trod_struct2 Try.underlying31 hf
    have hC2 : Try.prog.cellsOf 29 = 1 := by kernel_rfl
    rw [hC2] at t1
    simp at t1
    have hc1 : c1.cells.toList = [c1] := by
      rcases open_slice_val Try.underlying29 hv1 with rfl | ⟨sb, so, len, cap, rfl, _⟩ <;> rfl
    rw [← hc1] at t1
    obtain ⟨fs, hfs⟩ := open_fields hv1 t1
    exact ⟨n, c1, fs, rfl, hfs, b1, b2⟩
end
end Go.Proofs.Ytkkjlioigdpacaa
