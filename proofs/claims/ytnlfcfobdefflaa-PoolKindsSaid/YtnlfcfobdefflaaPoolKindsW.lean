/- PoolKinds: the walk of the law. -/
import Derived.Test.YtnlfcfobdefflaaPoolKinds
namespace Go.Proofs.Ytnlfcfobdefflaa
open Go Go.RowKit Go.Stg

def NamesAt (w : World) (v : Value) (ns : List ByteArray) : Prop :=
  (v = .slice none 0 0 ∧ ns = []) ∨ ∃ sb so cap, v = .slice (some ⟨sb, so, none⟩) ns.length cap ∧ sb < w.heap.size ∧ ns.length ≤ maxLen ∧
    ∀ i (h : i < ns.length), w.cell? ⟨sb, so + i, none⟩ = some (.string ns[i])
theorem NamesAt.len {w0 : World} {v : Value} {ns : List ByteArray} (h : NamesAt w0 v ns) (ty : TypeId) (w : World) : (Builtin.len_ #[22] ty #[v]).run Try.prog w = .ok (.int .i64 ns.length) w := by
  rcases h with ⟨rfl, rfl⟩ | ⟨sb, so, cap, rfl, _⟩ <;> simp [Builtin.len_, run_underlying Try.underlying22, goInt]
theorem NamesAt.mod {w w' : World} {v : Value} {ns : List ByteArray} (h : NamesAt w v ns) (hm : Mod [] w w') : NamesAt w' v ns := by
  rcases h with h | ⟨sb, so, cap, h1, h2, h3, h4⟩
  · exact .inl h
  · exact .inr ⟨sb, so, cap, h1, hm.lt h2, h3, fun i hi => (cell_mod hm h2 (by simp)).trans (h4 i hi)⟩
def nameOf (ns : List ByteArray) (x : Int) : ByteArray := ns.getD x.toNat ⟨#[]⟩
theorem names_upTo (ns : List ByteArray) : ns.map Value.string = (upTo ns.length).map fun x => .string (nameOf ns x) := by
  apply List.ext_getElem
  · simp [upTo]
  · intro i h1 h2
    simp only [List.length_map] at h1
    simp [upTo, nameOf, List.getD_eq_getElem?_getD, List.getElem?_eq_getElem h1]
theorem newS_names (v : Value) (ns : List ByteArray) (w : World) (h : NamesAt w v ns) (hl : ns.length ≤ 16) : Calls Try.prog 9 #[v] w (NewPost 62 9 ((upTo ns.length).map fun x => .string (nameOf ns x)) w) := by
  rw [← names_upTo]
  rcases h with ⟨rfl, rfl⟩ | ⟨sb, so, cap, rfl, h2, h3, h4⟩
  · exact NewS_made _ [] w (by simp) (CloneS_nil w) ⟨_, _, _, rfl⟩
  · have hc := CloneS_some sb so cap (ns.map Value.string) w h2 (fun j u h => by
      rw [List.getElem?_map] at h
      obtain ⟨s, hs, rfl⟩ := Option.map_eq_some_iff.1 h
      obtain ⟨hj, e⟩ := List.getElem?_eq_some_iff.1 hs
      rw [← e]
      exact h4 j hj) (by simp [Value.oneCell']) (by simp; omega)
    rw [List.length_map] at hc
    exact NewS_made _ _ w (by simp; omega) hc ⟨_, _, _, rfl⟩
theorem trio_start {W w w1 w2 w3 : World} {f : Int → ByteArray} {l : List Int} {b1 b2 b3 : Nat} {s1 s3 : Value} (hw : Mod [] W w) (h1 : Mod [] w w1 ∧ PoolAt 62 9 w1 b1 s1 (l.map fun x => .string (f x)) ∧ w.heap.size ≤ b1 ∧ ∀ x, s1.ownBlock = some x → w.heap.size ≤ x)
    (h2 : Mod [] w1 w2 ∧ PairAt w2 b2 (.slice none 0 0) [] ∧ w1.heap.size ≤ b2) (h3 : Mod [] w2 w3 ∧ PoolAt 57 3 w3 b3 s3 [] ∧ w2.heap.size ≤ b3 ∧ ∀ x, s3.ownBlock = some x → w2.heap.size ≤ x) : Three W f b1 b2 b3 l [] [] w3 := by
  obtain ⟨m1, p1, x1, y1⟩ := h1
  obtain ⟨m2, p2, x2⟩ := h2
  obtain ⟨m3, p3, x3, y3⟩ := h3
  have u1 := p1.under
  have u2 := p2.under
  have z0 := hw.size
  have z1 := m1.size
  have z2 := m2.size
  have e1 : ∀ x, x ∈ Foot b1 s1 → w.heap.size ≤ x := fun x hx => by
    rcases foot_mem.1 hx with rfl | hx
    · exact x1
    · exact y1 x hx
  have e2 : ∀ x, x ∈ Foot b2 (.slice none 0 0) → w1.heap.size ≤ x := fun x hx => by
    rcases foot_mem.1 hx with rfl | hx
    · exact x2
    · simp [Value.ownBlock] at hx
  have e3 : ∀ x, x ∈ Foot b3 s3 → w2.heap.size ≤ x := fun x hx => by
    rcases foot_mem.1 hx with rfl | hx
    · exact x3
    · exact y3 x hx
  exact ⟨s1, _, s3, ((hw.nil_then m1).nil_then m2).nil_then m3, (p1.mod m2 (by simp)).mod m3 (by simp), p2.mod m3 (by simp), p3,
    fun x hx => by have := e1 x hx; omega, fun x hx => by have := e2 x hx; omega, fun x hx => by have := e3 x hx; omega,
    fun x hx hy => by have := u1 x hx; have := e2 x hy; omega, fun x hx hy => by have := u1 x hx; have := e3 x hy; omega, fun x hx hy => by have := u2 x hx; have := e3 x hy; omega⟩

theorem eq_pair (a b c d : Int) (w : World) : (Op.equalIn 10000 29 (.agg #[.int .i64 a, .int .i64 b]) (.agg #[.int .i64 c, .int .i64 d])).run Try.prog w = .ok (a == c && b == d) w := by
  have u3 := Try.underlying3
  have a3 := Try.isAgg3
  have z3 := Try.sizeOf3
  rw [show (10000 : Nat) = 9999 + 1 from rfl, Op.equalIn]
  simp only [Sem.run_bind, run_underlying Try.underlying29, Result.andThen_ok]
  simp only [Std.Legacy.Range.forIn_eq_forIn_range', Std.Legacy.Range.size, Nat.sub_zero, Nat.add_sub_cancel, Nat.div_one, List.range'_succ, List.range'_zero, List.forIn_cons, List.forIn_nil]
  go_simp
  by_cases h1 : a = c <;> by_cases h2 : b = d <;> simp [h1, h2]
set_option maxHeartbeats 4000000 in
set_option maxRecDepth 10000 in
theorem kinds_walk (nv dv : Value) (ns : List ByteArray) (ds : List Int) (w : World) (hN : NamesAt w nv ns) (hs : DrawsAt w dv ds) :
    Calls Try.prog 3 #[nv, dv] w fun e w' => e = .returned (.bool true) ∧ Mod [] w w' := by
  have hln := fun ty w => hs.len ty w
  have hnn := fun ty w => hN.len ty w
  have hdm : ds.length ≤ maxLen := by
    rcases hs with ⟨_, rfl⟩ | ⟨_, _, _, _, _, h, _⟩
    · simp
    · exact h
  have hnm : ns.length ≤ maxLen := by
    rcases hN with ⟨_, rfl⟩ | ⟨_, _, _, _, _, h, _⟩
    · simp
    · exact h
  unfold maxLen at hdm hnm
  have heq := fun a b w => eq_pair a b a b w
  simp only [beq_self_eq_true, Bool.and_self] at heq
  by_cases h16 : ns.length ≤ 16
  · by_cases h20 : ds.length ≤ 20
    · have HN := Lib.hid (newS_names nv ns w hN h16)
      go_enter Try.func3, Try.ntmps3
      go_wp2_with fail
      refine HN.out.mono ?_
      rintro e w1 ⟨b1, s1, rfl, n1, n2, n3, n4⟩
      clear HN
      go_wp2_with fail
      refine (NewP_nil w1).mono ?_
      rintro e w2 ⟨b2, rfl, n5, n6, n7⟩
      go_wp2_with fail
      refine (NewI_made _ [] w2 (by simp) (CloneI_nil w2) ⟨_, _, _, rfl⟩).mono ?_
      rintro e w3 ⟨b3, s3, rfl, n8, n9, n10, n11⟩
      have hT := trio_start (Mod.refl [] w) ⟨n1, n2, n3, n4⟩ ⟨n5, n6, n7⟩ ⟨n8, n9, n10, n11⟩
      clear n1 n2 n3 n4 n5 n6 n7 n8 n9 n10 n11
      generalize hk : ns.length = k at *
      go_wp2_with fail
      go_loopw [31] (fun i wr => ∃ j : Nat, j ≤ k ∧ i = .int .i64 j ∧ Three w (nameOf ns) b1 b2 b3 (upTo k) (upTo j) (upTo j) wr) (fun i _ => k - (intOf i).toNat)
      case atStart => exact ⟨0, by omega, rfl, hT⟩
      case round =>
        obtain ⟨j, hj, rfl, hT2⟩ := hrel
        clear hT
        by_cases hlt : j < k
        · clear hs hN
          go_wp2_with fail
          refine (Three_PutP hT2 j (by rw [upTo_length]; omega)).mono ?_
          rintro e w4 ⟨rfl, hT4⟩
          go_wp2_with fail
          refine (Three_PutI hT4 j (by rw [upTo_length]; omega)).mono ?_
          rintro e w5 ⟨rfl, hT5⟩
          rw [← upTo_succ] at hT5
          go_wp2_with fail
          go_roundw
          case rel => exact ⟨j + 1, by omega, by go_num, hT5⟩
          case measure => simp [intOf]; omega
        · obtain rfl : j = k := by omega
          go_wp2_with fail
          have hM0 : ∀ x ∈ upTo j, ∃ m : Nat, x = m ∧ m < j := fun x hx => (upTo_mem j x).1 hx
          generalize upTo j = l0 at *
          go_loopw [9] (fun i wr => ∃ q : Nat, i = .int .i64 q ∧ q ≤ ds.length ∧ ∃ l, Three w (nameOf ns) b1 b2 b3 l l l wr ∧ ∀ x ∈ l, ∃ m : Nat, x = m ∧ m < j) (fun i _ => ds.length - (intOf i).toNat)
          case atStart => exact ⟨0, rfl, by omega, l0, hT2, hM0⟩
          case round =>
            obtain ⟨q, rfl, hq, l, hT3, hM⟩ := hrel
            clear hT2 hM0
            by_cases hlt : q < ds.length
            · rcases hs with ⟨_, rfl⟩ | ⟨xb, so, cap, rfl, h2, h3, h4⟩
              · simp at hlt
              · obtain ⟨hc, hd1, hd2⟩ := h4 q hlt
                clear h4
                generalize ds[q] = d at *
                have hcH := Lib.hid hc
                have c3 := (cell_mod hT3.mod h2 (by simp)).trans hc
                clear hc
                by_cases hl0 : l = []
                · subst hl0
                  clear hN
                  go_wp2_with fail
                  refine (Three_noneS hT3 d).mono ?_
                  rintro e w4 ⟨rfl, hT4⟩
                  have c4 := (cell_mod hT4.mod h2 (by simp)).trans hcH.out
                  clear c3
                  go_wp2_with fail
                  refine (Three_noneP hT4 d).mono ?_
                  rintro e w5 ⟨rfl, hT5⟩
                  have c5 := (cell_mod (hT5.mod.alloc (.cells #[.int .i64 0, .int .i64 0] 29 (0, 0))) h2 (by simp)).trans hcH.out
                  clear c4
                  go_wp2_with fail
                  refine (Three_noneI hT5 (.cells #[.int .i64 0, .int .i64 0] 29 (0, 0)) d).mono ?_
                  rintro e w6 ⟨rfl, hT6, hk6⟩
                  have hb6 := cells_of hk6
                  clear c5
                  go_wp2_with fail
                  go_roundw
                  case rel => exact ⟨q + 1, by go_num, by omega, [], hT6, hM⟩
                  case measure =>
                    show ds.length - (intOf (.int .i64 ((q : Int) + 1))).toNat < ds.length - (intOf (.int .i64 (q : Int))).toNat
                    simp only [intOf]
                    omega
                · have hn : 0 < l.length := List.length_pos_iff.2 hl0
                  have hpos : (0 : Int) < l.length := by omega
                  have e1 := Int.emod_nonneg d (show (l.length : Int) ≠ 0 by omega)
                  have e2 := Int.emod_lt_of_pos d hpos
                  have hi : d % l.length = (d % l.length).toNat := by omega
                  have hil : (d % l.length).toNat < l.length := by omega
                  generalize (d % l.length).toNat = i at *
                  clear e1 e2 hpos
                  obtain ⟨m, hm, hmk⟩ := hM l[i] (List.getElem_mem hil)
                  have hM6 : ∀ x ∈ takeAt l i hn, ∃ m : Nat, x = m ∧ m < j := fun x hx => hM x ((takeAt_perm l i hn hil).mem_iff.2 (List.mem_cons_of_mem _ hx))
                  rcases hN with ⟨_, rfl⟩ | ⟨nb, no, ncap, rfl, g2, g3, g4⟩
                  · simp at hk; omega
                  · have hs4 := g4 m (by omega)
                    have hnm : nameOf ns m = ns[m] := by simp [nameOf, List.getD_eq_getElem?_getD, List.getElem?_eq_getElem (show m < ns.length by omega)]
                    rw [← hnm] at hs4
                    subst hk
                    have hsH := Lib.hid hs4
                    have hHi := Lib.hid hi
                    clear g4 hs4 hnm hi hM
                    go_wp2_with fail
                    refine (Three_TakeS hT3 d hd1 hd2 hn i hHi.out hil).mono ?_
                    rw [hm]
                    rintro e w4 ⟨rfl, hT4⟩
                    have c4 := (cell_mod hT4.mod h2 (by simp)).trans hcH.out
                    clear c3
                    go_wp2_with fail
                    refine (Three_TakeP hT4 d hd1 hd2 hn i hHi.out hil).mono ?_
                    rw [hm]
                    rintro e w5 ⟨rfl, hT5⟩
                    have c5 := (cell_mod (hT5.mod.alloc (.cells #[.int .i64 m, .int .i64 (-m)] 29 (0, 0))) h2 (by simp)).trans hcH.out
                    clear c4
                    go_wp2_with fail
                    refine (Three_TakeI hT5 (.cells #[.int .i64 m, .int .i64 (-m)] 29 (0, 0)) d hd1 hd2 hn i hHi.out hil).mono ?_
                    rw [hm]
                    rintro e w6 ⟨rfl, hT6, hk6⟩
                    have hb6 := cells_of hk6
                    have hs6 := (cell_mod hT6.mod g2 (by simp)).trans hsH.out
                    have n1 : ¬ ((m : Int) < 0) := by omega
                    have n2 : ¬ ((ns.length : Int) ≤ m) := by omega
                    clear c5
                    go_wp2_with fail
                    go_roundw
                    case rel => exact ⟨q + 1, by go_num, by omega, _, hT6, hM6⟩
                    case measure =>
                      show ds.length - (intOf (.int .i64 ((q : Int) + 1))).toNat < ds.length - (intOf (.int .i64 (q : Int))).toNat
                      simp only [intOf]
                      omega
            · clear hs hN
              go_wp2_with fail
              refine (awake_ok _).mono ?_
              rintro e w4 ⟨rfl, hm4⟩
              have hT4 := hT3.then hm4
              go_wp2_with fail
              refine (Three_LenS hT4).mono ?_
              rintro e w5 ⟨rfl, hT5⟩
              go_wp2_with fail
              refine (Three_LenI hT5).mono ?_
              rintro e w6 ⟨rfl, hT6⟩
              go_wp2_with fail
              refine (Three_LenP hT6).mono ?_
              rintro e w7 ⟨rfl, hT7⟩
              go_wp2_with fail
              refine (Three_LenI hT7).mono ?_
              rintro e w8 ⟨rfl, hT8⟩
              go_wp2_with fail
              go_ret
              exact ⟨rfl, hT8.mod⟩
    · clear hs hN
      go_enter Try.func3, Try.ntmps3
      go_wp2_with fail
      refine (awake_ok _).mono ?_
      rintro e w3 ⟨rfl, hm3⟩
      go_wp2_with fail
      go_ret
      exact ⟨rfl, hm3⟩
  · clear hs hN
    go_enter Try.func3, Try.ntmps3
    go_wp2_with fail
    refine (awake_ok _).mono ?_
    rintro e w3 ⟨rfl, hm3⟩
    go_wp2_with fail
    go_ret
    exact ⟨rfl, hm3⟩
end Go.Proofs.Ytnlfcfobdefflaa
