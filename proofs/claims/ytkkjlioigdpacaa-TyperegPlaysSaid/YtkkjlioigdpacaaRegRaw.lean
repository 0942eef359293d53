/- Lists of types that come in: what can be said of them; registering such types. -/
import Derived.Test.YtkkjlioigdpacaaRegP
import Derived.Test.YtkkjlioigdpacaaLayF
namespace Go.Proofs.Ytkkjlioigdpacaa
open Go Go.RowKit Go.Stg Go.ChangeShapes Go.WideShapes Go.ChangeAt

/-- Fields that can be read; of a list without capacity nothing is said. -/
def FieldsW (w : World) (v : Value) (fs : List Fld) : Prop := FieldsAt w v fs ∨ ((∃ a, v = .slice (some a) 0 0) ∧ fs = [])
theorem FieldsW.mod {w w' : World} {v : Value} {fs : List Fld} (h : FieldsW w v fs) (hm : Mod [] w w') : FieldsW w' v fs := h.imp (·.mod hm) id
theorem FieldsW.slice {w : World} {v : Value} {fs : List Fld} (h : FieldsW w v fs) : ∃ a m c, v = .slice a m c := by
  rcases h with h | ⟨⟨a, h⟩, _⟩
  · exact h.slice
  · exact ⟨_, _, _, h⟩
theorem FieldsW.len {w0 : World} {v : Value} {fs : List Fld} (h : FieldsW w0 v fs) (ty : TypeId) (w : World) : (Builtin.len_ #[29] ty #[v]).run Try.prog w = .ok (.int .i64 fs.length) w := by
  rcases h with h | ⟨⟨a, rfl⟩, rfl⟩
  · exact h.len ty w
  · simp [Builtin.len_, run_underlying Try.underlying29, goInt]
theorem err_empty (len : Int) : errT len [] = if len < 0 then 3 else if 65536 < len then 4 else 3 := by
  unfold errT
  by_cases h1 : len < 0
  · simp [h1]
  · by_cases h2 : 65536 < len
    · simp [h1, h2]
    · have : badT len [] := by unfold badT; simp; omega
      simp [h1, h2, this]
theorem check_empty (len : Int) (a : Addr) (w : World) : Calls Try.prog 19 #[.agg #[.int .i64 len, .slice (some a) 0 0]] w fun e w' => e = .returned (.int .i64 (errT len [])) ∧ Mod [] w w' := by
  have q0 := at_alloc w (.cells #[.int .i64 len, .slice (some a) 0 0] 31)
  have hm0 := (Mod.refl [] w).alloc (.cells #[.int .i64 len, .slice (some a) 0 0] 31)
  have c0 := cells_of q0
  rw [err_empty]
  by_cases h1 : len < 0
  · rw [if_pos h1]
    go_enter Try.func19, Try.ntmps19
    go_wp2_with fail
    go_ret
    exact ⟨rfl, hm0⟩
  · rw [if_neg h1]
    by_cases h2 : 65536 < len
    · rw [if_pos h2]
      go_enter Try.func19, Try.ntmps19
      go_wp2_with fail
      go_ret
      exact ⟨rfl, hm0⟩
    · rw [if_neg h2]
      by_cases h3 : len = 0
      · subst h3
        go_enter Try.func19, Try.ntmps19
        go_wp2_with fail
        go_ret
        exact ⟨rfl, hm0⟩
      · have z : (len == 0) = false := by simp only [beq_eq_false_iff_ne]; exact h3
        have h4 : 0 < len := by omega
        clear h3
        go_enter Try.func19, Try.ntmps19
        go_wp2_with fail
        go_ret
        exact ⟨rfl, hm0⟩
theorem rcheck_empty (len : Int) (a : Addr) (w : World) : Calls Try.prog 27 #[.agg #[.int .i64 len, .slice (some a) 0 0]] w fun e w' => e = .returned (.int .i64 (errT len [])) ∧ Mod [] w w' := by
  have q0 := at_alloc w (.cells #[.int .i64 len, .slice (some a) 0 0] 31)
  have hm0 := (Mod.refl [] w).alloc (.cells #[.int .i64 len, .slice (some a) 0 0] 31)
  have c0 := cells_of q0
  rw [err_empty]
  by_cases h1 : len < 0
  · rw [if_pos h1]
    go_enter Try.func27, Try.ntmps27
    go_wp2_with fail
    go_ret
    exact ⟨rfl, hm0⟩
  · rw [if_neg h1]
    by_cases h2 : 65536 < len
    · rw [if_pos h2]
      go_enter Try.func27, Try.ntmps27
      go_wp2_with fail
      go_ret
      exact ⟨rfl, hm0⟩
    · rw [if_neg h2]
      by_cases h3 : len = 0
      · subst h3
        go_enter Try.func27, Try.ntmps27
        go_wp2_with fail
        go_ret
        exact ⟨rfl, hm0⟩
      · have z : (len == 0) = false := by simp only [beq_eq_false_iff_ne]; exact h3
        have h4 : 0 < len := by omega
        clear h3
        go_enter Try.func27, Try.ntmps27
        go_wp2_with fail
        go_ret
        exact ⟨rfl, hm0⟩
theorem err_empty_ne (len : Int) : errT len [] ≠ 0 := by
  rw [err_empty]
  repeat' split
  all_goals omega
theorem register_empty (p : Option Addr) (len : Int) (a : Addr) (w : World) : Calls Try.prog 9 #[.pointer p, .agg #[.int .i64 len, .slice (some a) 0 0]] w fun e w' => e = .returned (.tuple #[.int .i64 0, .int .i64 (errT len [])]) ∧ Mod [] w w' := by
  have hm0 := (Mod.refl [] w).alloc (.cells #[.int .i64 len, .slice (some a) 0 0] 31)
  have cbox := cells_of (at_alloc w (.cells #[.int .i64 len, .slice (some a) 0 0] 31))
  obtain ⟨q, hq⟩ : ∃ q, errT len [] = q := ⟨_, rfl⟩
  have hC := check_empty len a (w.alloc (.cells #[.int .i64 len, .slice (some a) 0 0] 31))
  have hne := err_empty_ne len
  rw [hq] at hC hne ⊢
  have z : (q == 0) = false := by simp only [beq_eq_false_iff_ne]; exact hne
  have hCH := Lib.hid hC
  clear hC hq hne
  go_enter Try.func9, Try.ntmps9
  go_wp2_with fail
  refine hCH.out.mono ?_
  rintro e w1 ⟨rfl, hm1⟩
  go_wp2_with fail
  go_ret2
  exact ⟨rfl, hm0.nil_then hm1⟩
theorem rregister_empty (p : Option Addr) (len : Int) (a : Addr) (w : World) : Calls Try.prog 16 #[.pointer p, .agg #[.int .i64 len, .slice (some a) 0 0]] w fun e w' => e = .returned (.tuple #[.int .i64 0, .int .i64 (errT len [])]) ∧ Mod [] w w' := by
  have hm0 := (Mod.refl [] w).alloc (.cells #[.int .i64 len, .slice (some a) 0 0] 31)
  have cbox := cells_of (at_alloc w (.cells #[.int .i64 len, .slice (some a) 0 0] 31))
  obtain ⟨q, hq⟩ : ∃ q, errT len [] = q := ⟨_, rfl⟩
  have hC := rcheck_empty len a (w.alloc (.cells #[.int .i64 len, .slice (some a) 0 0] 31))
  have hne := err_empty_ne len
  rw [hq] at hC hne ⊢
  have z : (q == 0) = false := by simp only [beq_eq_false_iff_ne]; exact hne
  have hCH := Lib.hid hC
  clear hC hq hne
  go_enter Try.func16, Try.ntmps16
  go_wp2_with fail
  refine hCH.out.mono ?_
  rintro e w1 ⟨rfl, hm1⟩
  go_wp2_with fail
  go_ret2
  exact ⟨rfl, hm0.nil_then hm1⟩
section
variable {F : List Nat} {W w : World} {cs : List Comp}
theorem sc_registerW (i : Nat) {rb : Nat} {R : List Ty} (h : Scene F W cs w) (hi : cs[i]? = some (regC 58 rb R)) {len : Int} {v : Value} {fs : List Fld} (hF : FieldsW w v fs) (hn : -9223372036854775808 ≤ len) (hn2 : len ≤ 9223372036854775807) :
    Calls Try.prog 9 #[.pointer (some ⟨rb, 0, none⟩), .agg #[.int .i64 len, v]] w fun e w' => e = .returned (regV R (len, fs)) ∧ Scene F W (cs.set i (regC 58 rb (regN R (len, fs)))) w' := by
  rcases hF with hF | ⟨⟨a, rfl⟩, rfl⟩
  · exact sc_register i h hi hF hn hn2
  · obtain ⟨k1, k2⟩ := reg_bad (R := R) (t := (len, [])) (err_empty_ne len)
    rw [k1, k2]
    refine (register_empty _ len a w).mono fun e w' ⟨he, hm⟩ => ⟨he, ?_⟩
    have e1 : cs.set i (regC 58 rb R) = cs := by
      obtain ⟨hl, he⟩ := List.getElem?_eq_some_iff.1 hi
      rw [← he, List.set_getElem_self]
    rw [e1]
    exact h.then hm
theorem sc_rregisterW (i : Nat) {rb : Nat} {R : List Ty} (h : Scene F W cs w) (hi : cs[i]? = some (regC 49 rb R)) {len : Int} {v : Value} {fs : List Fld} (hF : FieldsW w v fs) (hn : -9223372036854775808 ≤ len) (hn2 : len ≤ 9223372036854775807) :
    Calls Try.prog 16 #[.pointer (some ⟨rb, 0, none⟩), .agg #[.int .i64 len, v]] w fun e w' => e = .returned (regV R (len, fs)) ∧ Scene F W (cs.set i (regC 49 rb (regN R (len, fs)))) w' := by
  rcases hF with hF | ⟨⟨a, rfl⟩, rfl⟩
  · exact sc_rregister i h hi hF hn hn2
  · obtain ⟨k1, k2⟩ := reg_bad (R := R) (t := (len, [])) (err_empty_ne len)
    rw [k1, k2]
    refine (rregister_empty _ len a w).mono fun e w' ⟨he, hm⟩ => ⟨he, ?_⟩
    have e1 : cs.set i (regC 49 rb R) = cs := by
      obtain ⟨hl, he⟩ := List.getElem?_eq_some_iff.1 hi
      rw [← he, List.set_getElem_self]
    rw [e1]
    exact h.then hm
end
/-- A list of types that came in. -/
def RawAt (w : World) (v : Value) (L : List (Ty × Value)) : Prop :=
  (v = .slice none 0 0 ∧ L = []) ∨ ∃ sb so cap, v = .slice (some ⟨sb, so, none⟩) L.length cap ∧ sb < w.heap.size ∧ L.length ≤ maxLen ∧
    ∀ i (h : i < L.length), (w.cell? ⟨sb, so + i * 2, none⟩ = some (.int .i64 L[i].1.1) ∧ w.cell? ⟨sb, so + i * 2 + 1, none⟩ = some L[i].2) ∧ FieldsW w L[i].2 L[i].1.2 ∧ -9223372036854775808 ≤ L[i].1.1 ∧ L[i].1.1 ≤ 9223372036854775807
theorem RawAt.mod {w w' : World} {v : Value} {L : List (Ty × Value)} (h : RawAt w v L) (hm : Mod [] w w') : RawAt w' v L := by
  rcases h with h | ⟨sb, so, cap, rfl, h2, h3, h4⟩
  · exact .inl h
  · exact .inr ⟨sb, so, cap, rfl, hm.lt h2, h3, fun i hi => ⟨⟨(cell_mod hm h2 (by simp)).trans (h4 i hi).1.1, (cell_mod hm h2 (by simp)).trans (h4 i hi).1.2⟩, (h4 i hi).2.1.mod hm, (h4 i hi).2.2⟩⟩
theorem RawAt.len {w0 : World} {v : Value} {L : List (Ty × Value)} (h : RawAt w0 v L) (ty : TypeId) (w : World) : (Builtin.len_ #[43] ty #[v]).run Try.prog w = .ok (.int .i64 L.length) w := by
  rcases h with ⟨rfl, rfl⟩ | ⟨sb, so, cap, rfl, _⟩ <;> simp [Builtin.len_, run_underlying Try.underlying43, goInt]
theorem RawAt.small {w : World} {v : Value} {L : List (Ty × Value)} (h : RawAt w v L) : L.length ≤ 9223372036854775807 := by
  rcases h with ⟨_, rfl⟩ | ⟨_, _, _, _, _, h, _⟩
  · simp
  · exact h
theorem cells2_of {w : World} {a : Addr} {c0 c1 : Value} (hc : w.cells? 0 a 2 = some [c0, c1]) : w.cell? a = some c0 ∧ w.cell? (a.add 1) = some c1 := by
  unfold World.cells? at hc
  rw [if_pos (Nat.zero_le _)] at hc
  obtain ⟨hl2, hat⟩ := mapM_at hc
  obtain ⟨u0, hu0, hr0⟩ := hat 0 (by simp)
  obtain ⟨u1, hu1, hr1⟩ := hat 1 (by simp)
  simp at hu0 hu1 hr0 hr1
  subst hr0 hr1
  exact ⟨by simpa [Addr.add] using hu0, hu1⟩
theorem spot_of {w : World} {a : Addr} {u : Value} (h : w.cell? a = some u) : a.spot = none ∧ a.block < w.heap.size := by
  unfold World.cell? at h
  split at h
  · rename_i c _ _ hb
    refine ⟨?_, lt_of hb⟩
    cases hs : a.spot with
    | none => rfl
    | some s => rw [hs] at h; simp at h
  · cases h
section
variable {H : Type} {enc : TypeId × Value → H}
theorem open_fieldsW {fuel : Nat} {W : World} {c : Value} {y : DataW H × List MemPlace} (hf : DataW.trod enc Try.prog W 0 (fun _ => true) true fuel 29 [c] = some y) : ∃ fs, FieldsW W c fs := by
  rcases Deep.open_slice Try.underlying29 hf with ⟨h0, _⟩ | ⟨a, len, cap, m, fu, D, Pl, h0, _, hlc, hcap, hm, _, hx⟩
  · simp at h0
    subst h0
    exact ⟨[], .inl (.inl ⟨rfl, rfl⟩)⟩
  · simp at h0
    subst h0
    simp at hm
    subst hm
    have hC : Try.prog.cellsOf 28 = 2 := by kernel_rfl
    rw [hC] at hx
    by_cases hz : m = 0
    · subst hz
      obtain rfl : len = 0 := by omega
      exact ⟨[], .inr ⟨⟨a, rfl⟩, rfl⟩⟩
    · have each : ∀ i, i < m → ∃ f : Fld, W.cell? (a.add (i * 2)) = some (.int .i64 f.1) ∧ W.cell? ((a.add (i * 2)).add 1) = some (.int .i64 f.2) := by
        intro i hi
        obtain ⟨cs', hc, htr⟩ := hx i (by omega)
        obtain ⟨y0, y1, n, _, hlen, t0, t1⟩ := trod_struct2 Try.underlying28 htr
        rw [hC] at hlen
        match cs', hlen with
        | [c0, c1], _ =>
          simp at t0 t1
          have hC1 : Try.prog.cellsOf 3 = 1 := by kernel_rfl
          rw [hC1] at t0 t1
          simp at t0 t1
          obtain ⟨z0, e0, _, _⟩ := DataW.trod_int Try.underlying3 t0
          obtain ⟨z1, e1, _, _⟩ := DataW.trod_int Try.underlying3 t1
          simp at e0 e1
          subst e0 e1
          exact ⟨(z0, z1), cells2_of hc⟩
      obtain ⟨f0, hf0, _⟩ := each 0 (by omega)
      obtain ⟨hs, hb⟩ := spot_of hf0
      obtain ⟨ab, ao, asp⟩ := a
      simp [Addr.add] at hs hb
      subst hs
      have each : ∀ i, i < m → ∃ f : Fld, W.cell? ⟨ab, ao + i * 2, none⟩ = some (.int .i64 f.1) ∧ W.cell? ⟨ab, ao + i * 2 + 1, none⟩ = some (.int .i64 f.2) := fun i hi => by
        have := each i hi
        simpa only [add_atF] using this
      refine ⟨(List.range len).map fun i => if h : i < m then (each i h).choose else (0, 0), .inl (.inr ⟨ab, ao, m, by simp, hb, by simp; omega, fun i hi => ?_⟩)⟩
      have hi' : i < m := by have : i < len := by simpa using hi
                             omega
      simp only [List.getElem_map, List.getElem_range, dif_pos hi']
      exact (each i hi').choose_spec
theorem open_raw {W : World} {base : Nat} {v : Value} {d : DataW H} {ps : List MemPlace} (hval : Value.okWide Try.prog W .any base 43 v) (h : DataW.Trod enc Try.prog W 0 (fun _ => true) true 43 v d ps) : ∃ L, RawAt W v L := by
  rcases open_slice_val Try.underlying43 hval with rfl | ⟨sb, so, len, cap, rfl, h1, h2, h3⟩
  · exact ⟨[], .inl ⟨rfl, rfl⟩⟩
  · obtain ⟨fuel, hf⟩ := h
    have hcs : (Value.slice (some ⟨sb, so, none⟩) len cap).cells.toList = [.slice (some ⟨sb, so, none⟩) len cap] := rfl
    rw [hcs] at hf
    rcases Deep.open_slice Try.underlying43 hf with ⟨h0, _⟩ | ⟨a, len', cap', m, fu, D, Pl, h0, _, _, _, hm, _, hx⟩
    · simp at h0
    · simp at h0
      obtain ⟨rfl, rfl, rfl⟩ := h0
      simp at hm
      have hC : Try.prog.cellsOf 31 = 2 := by kernel_rfl
      rw [hC] at hx
      have each : ∀ i, i < len → ∃ p : Ty × Value, (W.cell? ⟨sb, so + i * 2, none⟩ = some (.int .i64 p.1.1) ∧ W.cell? ⟨sb, so + i * 2 + 1, none⟩ = some p.2) ∧ FieldsW W p.2 p.1.2 ∧ -9223372036854775808 ≤ p.1.1 ∧ p.1.1 ≤ 9223372036854775807 := by
        intro i hi
        obtain ⟨cs', hc, htr⟩ := hx i (by omega)
        obtain ⟨y0, y1, n, _, hlen, t0, t1⟩ := trod_struct2 Try.underlying31 htr
        rw [hC] at hlen
        match cs', hlen with
        | [c0, c1], _ =>
          have hC1 : Try.prog.cellsOf 3 = 1 := by kernel_rfl
          have hC2 : Try.prog.cellsOf 29 = 1 := by kernel_rfl
          simp at t0 t1
          rw [hC1] at t0
          rw [hC2] at t1
          simp at t0 t1
          obtain ⟨z0, e0, _, wz⟩ := DataW.trod_int Try.underlying3 t0
          simp at e0
          subst e0
          have wb := wf_bounds wz
          simp [IntKind.min, IntKind.max, IntKind.signed, IntKind.bits] at wb
          obtain ⟨fs, hfs⟩ := open_fieldsW t1
          obtain ⟨u0, u1⟩ := cells2_of hc
          rw [add_atF] at u0 u1
          rw [add_atF] at u1
          exact ⟨((z0, fs), c1), ⟨u0, u1⟩, hfs, wb⟩
      refine ⟨(List.range len).map fun i => if h : i < len then (each i h).choose else ((0, []), .slice none 0 0), .inr ⟨sb, so, cap, by simp, h1, by simp; omega, fun i hi => ?_⟩⟩
      have hi' : i < len := by simpa using hi
      simp only [List.getElem_map, List.getElem_range, dif_pos hi']
      exact (each i hi').choose_spec
end
end Go.Proofs.Ytkkjlioigdpacaa
