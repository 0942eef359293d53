/- LayoutBig: the walk of the law. -/
import Derived.Test.YtlnlclaoajjcbaaLaySame
namespace Go.Proofs.Ytlnlclaoajjcbaa
open Go Go.RowKit Go.Stg

theorem fields_one {w : World} {b : Nat} {k c : Int} {T : TypeId} {fr : Nat × Nat} (h : w.heap[b]? = some (.cells #[.int .i64 k, .int .i64 c] T fr)) : FieldsAt w (.slice (some ⟨b, 0, none⟩) 1 1) [(k, c)] := by
  refine .inr ⟨b, 0, 1, rfl, lt_of h, by simp [maxLen], fun i hi => ?_⟩
  have : i = 0 := by simpa using hi
  subst this
  rw [cells_of h, cells_of h]
  exact ⟨rfl, rfl⟩
theorem FieldsAt.modS {S : List Nat} {w w' : World} {v : Value} {fs : List Fld} (h : FieldsAt w v fs) (hm : Mod S w w') (hS : ∀ x, v.ownBlock = some x → x ∉ S) : FieldsAt w' v fs := by
  rcases h with h | ⟨sb, so, cap, rfl, h2, h3, h4⟩
  · exact .inl h
  · exact .inr ⟨sb, so, cap, rfl, hm.lt h2, h3, fun i hi => ⟨(cell_mod hm h2 (hS sb rfl)).trans (h4 i hi).1, (cell_mod hm h2 (hS sb rfl)).trans (h4 i hi).2⟩⟩
def fcells (fs : List Fld) : List Value := fs.flatMap fun f => [.int .i64 f.1, .int .i64 f.2]
theorem fcells_length : ∀ fs : List Fld, (fcells fs).length = fs.length * 2
  | [] => rfl
  | f :: r => by
    have := fcells_length r
    simp [fcells] at this ⊢
    omega
theorem fcells_at : ∀ (fs : List Fld) (i : Nat) (h : i < fs.length), (fcells fs)[i * 2]? = some (.int .i64 fs[i].1) ∧ (fcells fs)[i * 2 + 1]? = some (.int .i64 fs[i].2)
  | [], i, h => by simp at h
  | f :: r, 0, _ => ⟨rfl, rfl⟩
  | f :: r, i + 1, h => by
    have e : fcells (f :: r) = .int .i64 f.1 :: .int .i64 f.2 :: fcells r := rfl
    have h1 : (i + 1) * 2 = i * 2 + 2 := by omega
    have h2 : i * 2 + 2 + 1 = i * 2 + 1 + 2 := by omega
    rw [e, h1, h2]
    exact fcells_at r i (by simpa using h)
theorem fcells_snoc (fs : List Fld) (f : Fld) : fcells (fs ++ [f]) = fcells fs ++ [.int .i64 f.1, .int .i64 f.2] := by simp [fcells]
theorem row_fields {w : World} {e base n : Nat} {v : Value} {fs : List Fld} (h : w.ownsRow base e 2 v n (fcells fs)) (hn : n = fs.length) : FieldsAt w v fs := by
  subst hn
  rcases row_cases h with ⟨rfl, h0, _⟩ | ⟨g, cap, rfl, _, hg, hc, hm, hat⟩
  · exact .inl ⟨rfl, List.eq_nil_of_length_eq_zero h0⟩
  · refine .inr ⟨g, 0, cap, rfl, hg, by omega, fun i hi => ?_⟩
    rw [Nat.zero_add]
    exact ⟨(hat _ (by omega)).trans (fcells_at fs i hi).1, (hat _ (by omega)).trans (fcells_at fs i hi).2⟩
theorem info_field : (Try.prog.info? 36).map (fun i => (i.zero, i.size, i.bytes)) = some (some (.agg #[.int .i64 0, .int .i64 0]), 2, 16) := by kernel_rfl
theorem cells2 (w : World) (a b : Value) (T : TypeId) : ∀ j u, [a, b][j]? = some u → (w.alloc (.cells #[a, b] T)).cell? ((⟨w.heap.size, 0, none⟩ : Addr).add j) = some u := by
  intro j u h
  have hadd : (⟨w.heap.size, 0, none⟩ : Addr).add j = ⟨w.heap.size, j, none⟩ := by unfold Addr.add; split <;> simp_all
  rw [hadd, cells_of (at_alloc w _)]
  simpa using h
set_option maxHeartbeats 4000000 in
set_option maxRecDepth 10000 in
theorem big_walk (c n r : Int) (c0 : 0 ≤ c) (c1 : c ≤ 65535) (n0 : 0 ≤ n) (n1 : n ≤ 65535) (r0 : 0 ≤ r) (r1 : r ≤ 255) (w : World) :
    Calls Try.prog 5 #[.int .u16 c, .int .u16 n, .int .u8 r] w fun e w' => e = .returned (.bool true) ∧ Mod [] w w' := by
  obtain ⟨i0, hi0, hz0, hz1, hz2⟩ := info_parts info_field
  go_enter Try.func5, Try.ntmps5
  go_wp2_with fail
  obtain ⟨W0, e0⟩ : ∃ W', w.alloc (.cells #[.int .i64 1, .int .i64 0] 36) = W' := ⟨_, rfl⟩
  have s0 : W0.heap.size = w.heap.size + 1 := by rw [← e0]; simp
  have a0 : W0.heap[w.heap.size]? = some (.cells #[.int .i64 1, .int .i64 0] 36) := by rw [← e0]; exact at_alloc _ _
  have m0 : Mod [] w W0 := by rw [← e0]; exact (Mod.refl _ _).alloc _
  obtain ⟨W1, e1⟩ : ∃ W', W0.alloc (.cells #[.int .i64 (n + 65000), .slice (some ⟨w.heap.size, 0, none⟩) 1 1] 24) = W' := ⟨_, rfl⟩
  have s1 : W1.heap.size = w.heap.size + 1 + 1 := by rw [← e1]; simp [s0]
  have a1 : W1.heap[w.heap.size + 1]? = some (.cells #[.int .i64 (n + 65000), .slice (some ⟨w.heap.size, 0, none⟩) 1 1] 24) := by rw [← e1, ← s0]; exact at_alloc _ _
  have m1 : Mod [] W0 W1 := by rw [← e1]; exact (Mod.refl _ _).alloc _
  obtain ⟨W2, e2⟩ : ∃ W', W1.alloc (.cells #[.int .i64 4, .int .i64 0] 36) = W' := ⟨_, rfl⟩
  have s2 : W2.heap.size = w.heap.size + 1 + 1 + 1 := by rw [← e2]; simp [s1]
  have a2 : W2.heap[w.heap.size + 1 + 1]? = some (.cells #[.int .i64 4, .int .i64 0] 36) := by rw [← e2, ← s1]; exact at_alloc _ _
  have m2 : Mod [] W1 W2 := by rw [← e2]; exact (Mod.refl _ _).alloc _
  obtain ⟨W3, e3⟩ : ∃ W', W2.alloc (.cells #[.int .i64 (1 + n % 9000), .slice (some ⟨w.heap.size + 1 + 1, 0, none⟩) 1 1] 24) = W' := ⟨_, rfl⟩
  have s3 : W3.heap.size = w.heap.size + 1 + 1 + 1 + 1 := by rw [← e3]; simp [s2]
  have a3 : W3.heap[w.heap.size + 1 + 1 + 1]? = some (.cells #[.int .i64 (1 + n % 9000), .slice (some ⟨w.heap.size + 1 + 1, 0, none⟩) 1 1] 24) := by rw [← e3, ← s2]; exact at_alloc _ _
  have m3 : Mod [] W2 W3 := by rw [← e3]; exact (Mod.refl _ _).alloc _
  obtain ⟨W4, e4⟩ : ∃ W', W3.alloc (.cells #[.int .i64 6, .int .i64 (1 + c % 600)] 36) = W' := ⟨_, rfl⟩
  have s4 : W4.heap.size = w.heap.size + 1 + 1 + 1 + 1 + 1 := by rw [← e4]; simp [s3]
  have a4 : W4.heap[w.heap.size + 1 + 1 + 1 + 1]? = some (.cells #[.int .i64 6, .int .i64 (1 + c % 600)] 36) := by rw [← e4, ← s3]; exact at_alloc _ _
  have m4 : Mod [] W3 W4 := by rw [← e4]; exact (Mod.refl _ _).alloc _
  obtain ⟨W5, e5⟩ : ∃ W', W4.alloc (.cells #[.int .i64 (1 + n % 300), .slice (some ⟨w.heap.size + 1 + 1 + 1 + 1, 0, none⟩) 1 1] 24) = W' := ⟨_, rfl⟩
  have s5 : W5.heap.size = w.heap.size + 1 + 1 + 1 + 1 + 1 + 1 := by rw [← e5]; simp [s4]
  have a5 : W5.heap[w.heap.size + 1 + 1 + 1 + 1 + 1]? = some (.cells #[.int .i64 (1 + n % 300), .slice (some ⟨w.heap.size + 1 + 1 + 1 + 1, 0, none⟩) 1 1] 24) := by rw [← e5, ← s4]; exact at_alloc _ _
  have m5 : Mod [] W4 W5 := by rw [← e5]; exact (Mod.refl _ _).alloc _
  obtain ⟨W6, e6⟩ : ∃ W', W5.alloc (.cells #[.int .i64 0, .slice none 0 0] 24) = W' := ⟨_, rfl⟩
  have s6 : W6.heap.size = w.heap.size + 1 + 1 + 1 + 1 + 1 + 1 + 1 := by rw [← e6]; simp [s5]
  have a6 : W6.heap[w.heap.size + 1 + 1 + 1 + 1 + 1 + 1]? = some (.cells #[.int .i64 0, .slice none 0 0] 24) := by rw [← e6, ← s5]; exact at_alloc _ _
  have m6 : Mod [] W5 W6 := by rw [← e6]; exact (Mod.refl _ _).alloc _
  have a0 := m1.at a0 (by simp)
  have a0 := m2.at a0 (by simp)
  have a0 := m3.at a0 (by simp)
  have a0 := m4.at a0 (by simp)
  have a0 := m5.at a0 (by simp)
  have a0 := m6.at a0 (by simp)
  have a1 := m2.at a1 (by simp)
  have a1 := m3.at a1 (by simp)
  have a1 := m4.at a1 (by simp)
  have a1 := m5.at a1 (by simp)
  have a1 := m6.at a1 (by simp)
  have a2 := m3.at a2 (by simp)
  have a2 := m4.at a2 (by simp)
  have a2 := m5.at a2 (by simp)
  have a2 := m6.at a2 (by simp)
  have a3 := m4.at a3 (by simp)
  have a3 := m5.at a3 (by simp)
  have a3 := m6.at a3 (by simp)
  have a4 := m5.at a4 (by simp)
  have a4 := m6.at a4 (by simp)
  have a5 := m6.at a5 (by simp)
  have hm : Mod [] w W6 := ((((((m0.nil_then m1).nil_then m2).nil_then m3).nil_then m4).nil_then m5).nil_then m6)
  rw [e0, e1, e2, e3, e4, e5, e6]
  clear e0 e1 e2 e3 e4 e5 e6 m0 m1 m2 m3 m4 m5 m6 s0 s1 s2 s3 s4 s5
  have f0 := fields_one a0
  have f2 := fields_one a2
  have f4 := fields_one a4
  have hB : ∃ B, w.heap.size + 1 + 1 + 1 + 1 + 1 + 1 = B := ⟨_, rfl⟩
  obtain ⟨B, hB⟩ := hB
  rw [hB] at a6 ⊢
  have hBH := Lib.hid hB
  clear hB a0 a2 a4
  obtain ⟨m, hm5⟩ := Int.eq_ofNat_of_zero_le (show 0 ≤ 30 + r % 5 by omega)
  have hm6 : m ≤ 34 := by omega
  go_loopw [11] (fun i wr => ∃ k : Nat, ∃ sv, k ≤ m ∧ i = .int .i64 k ∧ Mod [B] W6 wr ∧ wr.heap[B]? = some (.cells #[.int .i64 0, sv] 24 (0, 0)) ∧ wr.ownsRow 0 36 2 sv k (fcells (List.replicate k (6, 1900 + c % 300))) ∧ ∀ x, sv.ownBlock = some x → W6.heap.size ≤ x) (fun i _ => m - (intOf i).toNat)
  case atStart => exact ⟨0, _, by omega, rfl, Mod.refl _ _, a6, World.ownsRow_nil _ _ _ _, by simp [Value.ownBlock]⟩
  case round =>
    obtain ⟨k, sv, hk, rfl, hmm, hb, hrow, hfs⟩ := hrel
    have hlb := lt_of a6
    clear a6
    have hcb := cells_of hb
    by_cases hlt : k < m
    · have hne : sv.ownBlock ≠ some B := fun e => by have := hfs B e; omega
      have h63 : k + 1 ≤ maxLen := by unfold maxLen; omega
      have hby : (k + 1) * 16 ≤ 140737488355328 := by omega
      have hbA := at_alloc_old (o := .cells #[.int .i64 6, .int .i64 (1900 + c % 300)] 36 (0, 0)) hb
      have hsn : fcells (List.replicate (k + 1) (6, 1900 + c % 300)) = fcells (List.replicate k (6, 1900 + c % 300)) ++ [.int .i64 6, .int .i64 (1900 + c % 300)] := by rw [List.replicate_succ', fcells_snoc]
      clear a1 a3 a5 f0 f2 f4
      go_wp2_with (first | (at_builtin; refine wpList_append_row _ rfl _ _ 22 rfl 36 i0 (.agg #[.int .i64 0, .int .i64 0]) 2 16 Try.underlying22 hi0 hz0 hz1 hz2 rfl (by decide) sv k (fcells (List.replicate k (6, 1900 + c % 300))) rfl (hrow.alloc _) ⟨wr.heap.size, 0, none⟩ 1 1 [.int .i64 6, .int .i64 (1900 + c % 300)] rfl rfl (cells2 _ _ _ _) (by simp [Value.oneCell']) h63 hby ?_; intro v' w1 hown1 hgrow hfr; obtain ⟨g', cap', rfl, _, _⟩ := row_pos hown1 (by omega); have hm1 := ((Mod.refl sv.ownBlock.toList wr).alloc (.cells #[.int .i64 6, .int .i64 (1900 + c % 300)] 36 (0, 0))).grown hgrow (by intro k hk; left; simp [hk]); have hbx := (((Mod.refl sv.ownBlock.toList (wr.alloc (.cells #[.int .i64 6, .int .i64 (1900 + c % 300)] 36 (0, 0)))).grown hgrow (by intro k hk; left; simp [hk])).at hbA (by simpa using hne)); have hcb1 := cells_of hbx; have hfb1 := frozen_of hbx))
      have hgB : g' ≠ B := by
        intro e
        subst e
        rcases hfr _ rfl with h | h
        · exact hne h
        · have := lt_of hb; simp at h; omega
      have hfs2 : ∀ x, (Value.slice (some ⟨g', 0, none⟩) (k + 1) cap').ownBlock = some x → W6.heap.size ≤ x := fun x hx => by
        have hx' : some g' = some x := hx
        obtain rfl := Option.some.inj hx'
        rcases hfr _ rfl with h | h
        · exact hfs _ h
        · have := hmm.size; simp at h; omega
      have hmm2 := (hmm.then hm1 (fun x hx => .inr (hfs x (by simpa using hx)))).setCell (p := ⟨B, 1, none⟩) (.inl (by simp)) (.slice (some ⟨g', 0, none⟩) (k + 1) cap')
      go_roundw
      case rel =>
        refine ⟨k + 1, _, by omega, by go_num, hmm2, at_setCell (o := 1) hbx, ?_, hfs2⟩
        rw [hsn]
        exact row_mod hown1 ((Mod.refl [B] _).setCell (p := ⟨B, 1, none⟩) (.inl (by simp)) _) (fun g hg => by
          have hx' : some g' = some g := hg
          obtain rfl := Option.some.inj hx'
          simpa using hgB)
      case measure => simp [intOf]; omega
    · obtain rfl : k = m := by omega
      have hBn := hBH.out
      have b1 := hmm.at a1 (by simp; omega)
      have b3 := hmm.at a3 (by simp; omega)
      have b5 := hmm.at a5 (by simp; omega)
      have t0 := f0.modS hmm (fun x hx => by have hx' : some w.heap.size = some x := hx; obtain rfl := Option.some.inj hx'; simp; omega)
      have t2 := f2.modS hmm (fun x hx => by have hx' : some (w.heap.size + 1 + 1) = some x := hx; obtain rfl := Option.some.inj hx'; simp; omega)
      have t4 := f4.modS hmm (fun x hx => by have hx' : some (w.heap.size + 1 + 1 + 1 + 1) = some x := hx; obtain rfl := Option.some.inj hx'; simp; omega)
      have t6 := row_fields hrow (by simp)
      have hmw : Mod [] w wr := hm.then hmm (fun x hx => .inr (by have hxB := List.mem_singleton.1 hx; omega))
      have z1 := Lib.hid fun (w' : World) (h : Mod [] wr w') => same_ok (n + 65000) _ _ 65535 w' (t0.mod h) (by omega) (by omega)
      have z2 := Lib.hid fun (w' : World) (h : Mod [] wr w') => same_ok (1 + n % 9000) _ _ 8191 w' (t2.mod h) (by omega) (by omega)
      have z3 := Lib.hid fun (w' : World) (h : Mod [] wr w') => same_ok (1 + n % 300) _ _ (n % 300) w' (t4.mod h) (by omega) (by omega)
      have z4 := Lib.hid fun (w' : World) (h : Mod [] wr w') => same_ok 0 _ _ 31 w' (t6.mod h) (by omega) (by omega)
      clear t0 t2 t4 t6 f0 f2 f4 a1 a3 a5 hrow hmm hm hcb hBn
      go_wp2_with fail
      refine (awake_ok _).mono ?_
      rintro e w1 ⟨rfl, hm1⟩
      have cb := cells_of (hm1.at b1 (by simp))
      go_wp2_with fail
      refine (z1.out _ hm1).mono ?_
      rintro e w2 ⟨rfl, hm2⟩
      have hm2 := hm1.nil_then hm2
      clear cb
      have cb := cells_of (hm2.at b3 (by simp))
      go_wp2_with fail
      refine (z2.out _ hm2).mono ?_
      rintro e w3 ⟨rfl, hm3⟩
      have hm3 := hm2.nil_then hm3
      clear cb
      have cb := cells_of (hm3.at b5 (by simp))
      go_wp2_with fail
      refine (z3.out _ hm3).mono ?_
      rintro e w4 ⟨rfl, hm4⟩
      have hm4 := hm3.nil_then hm4
      clear cb
      have cb := cells_of (hm4.at hb (by simp))
      go_wp2_with fail
      refine (z4.out _ hm4).mono ?_
      rintro e w5 ⟨rfl, hm5⟩
      go_wp2_with fail
      go_ret
      exact ⟨rfl, (hmw.nil_then hm4).nil_then hm5⟩
end Go.Proofs.Ytlnlclaoajjcbaa
