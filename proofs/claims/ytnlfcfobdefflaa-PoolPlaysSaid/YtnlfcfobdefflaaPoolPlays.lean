/- PoolPlays: the walk of the law. -/
import Derived.Test.YtnlfcfobdefflaaPoolListed
import Derived.Test.YtnlfcfobdefflaaPoolAppend
namespace Go.Proofs.Ytnlfcfobdefflaa
open Go Go.RowKit Go.Stg

/-- A list of numbers, as it came in. -/
def ItemsAt (w : World) (v : Value) (xs : List Int) : Prop := SliceIn w v (xs.map (.int .i64)) ∧ xs.length ≤ maxLen
theorem ItemsAt.mod {w w' : World} {v : Value} {xs : List Int} (h : ItemsAt w v xs) (hm : Mod [] w w') : ItemsAt w' v xs := ⟨h.1.mod hm, h.2⟩
theorem ItemsAt.len {w0 : World} {v : Value} {xs : List Int} (h : ItemsAt w0 v xs) (ty : TypeId) (w : World) : (Builtin.len_ #[45] ty #[v]).run Try.prog w = .ok (.int .i64 xs.length) w := by
  rcases h.1 with ⟨rfl, hn⟩ | ⟨sb, so, cap, rfl, _⟩
  · have : xs = [] := by simpa using hn
    subst this
    simp [Builtin.len_, run_underlying Try.underlying45, goInt]
  · simp [Builtin.len_, run_underlying Try.underlying45, goInt]
theorem NewI_items (v : Value) (xs : List Int) (w : World) (h : ItemsAt w v xs) (hl : xs.length ≤ 20) : Calls Try.prog 11 #[v] w (NewPost 57 3 (xs.map (.int .i64)) w) := by
  rcases h.1 with ⟨rfl, hn⟩ | ⟨sb, so, cap, rfl, h2, h3⟩
  · rw [hn]
    exact NewI_made _ [] w (by simp) (CloneI_nil w) ⟨_, _, _, rfl⟩
  · exact NewI_made _ _ w (by simp; omega) (CloneI_some sb so cap _ w h2 h3 (by simp [Value.oneCell']) (by simp; omega)) ⟨_, _, _, rfl⟩

/-- A pool of numbers, and the definition's list beside it. -/
def Both (W : World) (b : Nat) (ps : List Int) (mv : Value) (ms : List Int) (w : World) : Prop :=
  ∃ sv, Mod [] W w ∧ PoolAt 57 3 w b sv (ps.map (.int .i64)) ∧ W.heap.size ≤ b ∧ (∀ x, sv.ownBlock = some x → W.heap.size ≤ x) ∧ IntsAt w mv ms ∧ ∀ x, mv.ownBlock = some x → x ≠ b ∧ sv.ownBlock ≠ some x
theorem Both.mod {W w : World} {b : Nat} {ps ms : List Int} {mv : Value} (h : Both W b ps mv ms w) : Mod [] W w := let ⟨_, h, _⟩ := h; h
theorem Both.ints {W w : World} {b : Nat} {ps ms : List Int} {mv : Value} (h : Both W b ps mv ms w) : IntsAt w mv ms := let ⟨_, _, _, _, _, h, _⟩ := h; h
theorem Both.held {W w : World} {b : Nat} {ps ms : List Int} {mv : Value} (h : Both W b ps mv ms w) : Held W b ps w := let ⟨sv, h1, h2, h3, h4, _⟩ := h; ⟨sv, h1, h2, h3, h4⟩
theorem Both.then {W w w' : World} {b : Nat} {ps ms : List Int} {mv : Value} (h : Both W b ps mv ms w) (hm : Mod [] w w') : Both W b ps mv ms w' := by
  obtain ⟨sv, h1, h2, h3, h4, h5, h6⟩ := h
  exact ⟨sv, h1.nil_then hm, h2.mod hm (by simp), h3, h4, h5.mod hm (by simp), h6⟩
/-- The list is a new one. -/
theorem Both.list {W w w' : World} {b : Nat} {ps ms ms' : List Int} {mv mv' : Value} (h : Both W b ps mv ms w) (hm : Mod [] w w') (hi : IntsAt w' mv' ms') (hf : ∀ x, mv'.ownBlock = some x → w.heap.size ≤ x) : Both W b ps mv' ms' w' := by
  obtain ⟨sv, h1, h2, h3, h4, h5, h6⟩ := h
  refine ⟨sv, h1.nil_then hm, h2.mod hm (by simp), h3, h4, hi, fun x hx => ?_⟩
  have := hf x hx
  have hb := lt_of h2.blk
  refine ⟨by omega, fun e => ?_⟩
  have := (h2.row.lt x e).2
  omega
/-- Behind a call that changed the pool. -/
theorem Both.pool {W w : World} {b : Nat} {ps' ms : List Int} {mv r : Value} {e : Ending} {w' : World} (sv : Value) (h1 : Mod [] W w) (h3 : W.heap.size ≤ b) (h4 : ∀ x, sv.ownBlock = some x → W.heap.size ≤ x) (h5 : IntsAt w mv ms) (h6 : ∀ x, mv.ownBlock = some x → x ≠ b ∧ sv.ownBlock ≠ some x) (hb : b < w.heap.size)
    (h : PoolPost 57 3 r b sv (ps'.map (.int .i64)) w e w') : e = .returned r ∧ Both W b ps' mv ms w' := by
  obtain ⟨sv', rfl, hm, hp, hs⟩ := h
  have hn : ∀ x, mv.ownBlock = some x → x ∉ b :: sv.ownBlock.toList := fun x hx hq => by
    rcases List.mem_cons.1 hq with e | hq
    · exact (h6 x hx).1 e
    · exact (h6 x hx).2 (by simpa using hq)
  refine ⟨rfl, sv', h1.then hm (fun x hx => .inr ?_), hp, h3, fun x hx => ?_, h5.mod hm hn, fun x hx => ⟨(h6 x hx).1, fun e => ?_⟩⟩
  · rcases List.mem_cons.1 hx with rfl | hx
    · exact h3
    · exact h4 x (by simpa using hx)
  · rcases hs x hx with h | h
    · exact h4 x h
    · exact Nat.le_trans h1.size h
  · rcases hs x e with h | h
    · exact (h6 x hx).2 h
    · rcases h5 with ⟨rfl, _⟩ | ⟨sb, so, cap, rfl, g2, _⟩
      · simp [Value.ownBlock] at hx
      · have hx' : some sb = some x := hx
        have := Option.some.inj hx'
        omega
theorem Both_Take {W w : World} {b : Nat} {ps ms : List Int} {mv : Value} (h : Both W b ps mv ms w) (d : Int) (hd : 0 ≤ d) (hd2 : d ≤ 18446744073709551615) (hn : 0 < ps.length) (i : Nat) (hi : d % ps.length = i) (hil : i < ps.length) :
    Calls Try.prog 16 #[.pointer (some ⟨b, 0, none⟩), .int .u64 d] w fun e w' => e = .returned (.tuple #[.int .i64 ps[i], .bool true]) ∧ Both W b (takeAt ps i hn) mv ms w' := by
  obtain ⟨sv, h1, h2, h3, h4, h5, h6⟩ := h
  exact (TakeI_some d hd hd2 b sv ps w h2 hn i hi hil).mono fun e w' hp => Both.pool sv h1 h3 h4 h5 h6 (lt_of h2.blk) hp
theorem Both_none {W w : World} {b : Nat} {ms : List Int} {mv : Value} (h : Both W b [] mv ms w) (d : Int) :
    Calls Try.prog 16 #[.pointer (some ⟨b, 0, none⟩), .int .u64 d] w fun e w' => e = .returned (.tuple #[.int .i64 0, .bool false]) ∧ Both W b [] mv ms w' := by
  have h0 := h
  obtain ⟨sv, h1, h2, h3, h4, h5, h6⟩ := h
  exact (TakeI_none d b sv w h2).mono fun e w' ⟨he, hm⟩ => ⟨he, h0.then hm⟩
theorem Both_Put {W w : World} {b : Nat} {ps ms : List Int} {mv : Value} (h : Both W b ps mv ms w) (x : Int) (hl : ps.length < 1000000) :
    Calls Try.prog 13 #[.pointer (some ⟨b, 0, none⟩), .int .i64 x] w fun e w' => e = .returned (.tuple #[]) ∧ Both W b (ps ++ [x]) mv ms w' := by
  obtain ⟨sv, h1, h2, h3, h4, h5, h6⟩ := h
  exact (PutI_any x b sv _ w h2 (by simpa using hl)).mono fun e w' hp => Both.pool sv h1 h3 h4 h5 h6 (lt_of h2.blk) (by simpa using hp)
theorem Both_Len {W w : World} {b : Nat} {ps ms : List Int} {mv : Value} (h : Both W b ps mv ms w) : Calls Try.prog 18 #[.pointer (some ⟨b, 0, none⟩)] w fun e w' => e = .returned (.int .i64 ps.length) ∧ Both W b ps mv ms w' := by
  have h0 := h
  obtain ⟨sv, h1, h2, h3, h4, h5, h6⟩ := h
  refine (LenI_any b sv _ w h2).mono ?_
  rintro e w' ⟨rfl, hm⟩
  exact ⟨by simp, h0.then hm⟩
theorem Both_listed {W w : World} {b : Nat} {ps ms : List Int} {mv : Value} (h : Both W b ps mv ms w) : Calls Try.prog 22 #[.pointer (some ⟨b, 0, none⟩)] w fun e w' => ∃ v, e = .returned v ∧ Both W b ps mv ms w' ∧ IntsAt w' v ps := by
  have h0 := h
  obtain ⟨sv, h1, h2, h3, h4, h5, h6⟩ := h
  refine (listed_ok b sv ps w h2).mono ?_
  rintro e w' ⟨v, rfl, hm, hi⟩
  exact ⟨v, rfl, h0.then hm, hi⟩
theorem Both_same {W w : World} {b : Nat} {ps ms : List Int} {mv v : Value} (h : Both W b ps mv ms w) (hv : IntsAt w v ms) : Calls Try.prog 21 #[v, mv] w fun e w' => e = .returned (.bool true) ∧ Both W b ps mv ms w' :=
  (same_self v mv ms w hv h.ints).mono fun e w' ⟨he, hm⟩ => ⟨he, h.then hm⟩
theorem Both_RTake {W w : World} {b : Nat} {ps ms : List Int} {mv : Value} (h : Both W b ps mv ms w) (d : Int) (hd : 0 ≤ d) (hd2 : d ≤ 18446744073709551615) (hn : 0 < ms.length) (i : Nat) (hi : d % ms.length = i) (hil : i < ms.length) :
    Calls Try.prog 20 #[mv, .int .u64 d] w fun e w' => ∃ mv', e = .returned (.tuple #[.int .i64 ms[i], mv']) ∧ Both W b ps mv' (takeAt ms i hn) w' := by
  rcases h.ints with ⟨rfl, rfl⟩ | ⟨sb, so, cap, rfl, g2, g3, g4⟩
  · simp at hn
  · refine (RTake_some d hd hd2 sb so cap ms w g2 g3 g4 hn i hi hil).mono ?_
    rintro e w' ⟨mv', rfl, hm, hi, hf⟩
    exact ⟨mv', rfl, h.list hm hi hf⟩
set_option maxHeartbeats 4000000 in
set_option maxRecDepth 10000 in
theorem plays_walk (nv dv : Value) (ns : List Int) (ds : List Int) (pv : Int) (hp0 : 0 ≤ pv) (hp1 : pv ≤ 65535) (w : World) (hN : ItemsAt w nv ns) (hs : DrawsAt w dv ds) :
    Calls Try.prog 5 #[nv, dv, .int .u16 pv] w fun e w' => e = .returned (.bool true) ∧ Mod [] w w' := by
  obtain ⟨i0, hi0, hz0, hz1, hz2⟩ := info_parts info_int
  have hln := fun ty w => hs.len ty w
  have hnn := fun ty w => hN.len ty w
  have hnm := hN.2
  have hdm : ds.length ≤ maxLen := by
    rcases hs with ⟨_, rfl⟩ | ⟨_, _, _, _, _, h, _⟩
    · simp
    · exact h
  unfold maxLen at hdm hnm
  by_cases h20 : ns.length ≤ 20
  · by_cases h30 : ds.length ≤ 30
    · go_enter Try.func5, Try.ntmps5
      go_wp2_with fail
      refine (awake_ok _).mono ?_
      rintro e w1 ⟨rfl, hm1⟩
      go_wp2_with fail
      refine (NewI_items nv ns w1 (hN.mod hm1) h20).mono ?_
      rintro e w2 ⟨b, sv, rfl, n1, n2, n3, n4⟩
      have hI2 := ((hN.mod hm1).1.mod n1).mod ((Mod.refl [] w2).alloc (.cells #[] 3 (0, 0)))
      have hown : (w2.alloc (.cells #[] 3 (0, 0))).ownsRow 0 3 1 (.slice (some ⟨w2.heap.size, 0, none⟩) 0 0) 0 [] := World.ownsRow_made w2 #[] 0 (Nat.zero_le _) (Nat.zero_le _) rfl
      go_wp2_with (first | (at_builtin; refine wpList_append_in _ rfl _ _ 45 rfl 3 i0 (.int .i64 0) 8 Try.underlying45 hi0 hz0 hz1 hz2 rfl (.slice (some ⟨w2.heap.size, 0, none⟩) 0 0) 0 [] rfl hown nv _ rfl hI2 (by simp [Value.oneCell']) (by simp; unfold maxLen; omega) (by simp; omega) ?_; intro mv w3 hown1 hgrow hfr; simp only [Nat.zero_add, List.nil_append] at hown1))
      have hB : Both w b ns mv ns w3 := by
        have hA : Mod [] w2 w3 := ((Mod.refl [] w2).alloc _).grown hgrow (fun k hk => .inr (by have hk' : some w2.heap.size = some k := hk; have := Option.some.inj hk'; omega))
        refine ⟨sv, (hm1.nil_then n1).nil_then hA, n2.mod hA (by simp), Nat.le_trans hm1.size n3, fun x hx => Nat.le_trans hm1.size (n4 x hx), row_ints hown1 (by simp) (by omega), fun x hx => ?_⟩
        have hlt := lt_of n2.blk
        have hge : w2.heap.size ≤ x := by
          rcases hfr x hx with h | h
          · have hk' : some w2.heap.size = some x := h
            have := Option.some.inj hk'; omega
          · simp at h; omega
        exact ⟨by omega, fun e => by have := (n2.row.lt x e).2; omega⟩
      clear hown1 hgrow hfr hown hI2 n1 n2 n3 n4 hm1 hN
      go_loopw [8, 9] (fun mv i wr => ∃ q : Nat, q ≤ ds.length ∧ i = .int .i64 q ∧ ∃ ms, ms.length ≤ 20 + q ∧ Both w b ms mv ms wr) (fun _ i _ => ds.length - (intOf i).toNat)
      case atStart => exact ⟨0, by omega, rfl, ns, by omega, hB⟩
      case round =>
        obtain ⟨q, hq, rfl, ms, hml, hB2⟩ := hrel
        clear hB
        by_cases hlt : q < ds.length
        · rcases hs with ⟨_, rfl⟩ | ⟨xb, so, cap, rfl, h2, h3, h4⟩
          · simp at hlt
          · obtain ⟨hc, hd1, hd2⟩ := h4 q hlt
            clear h4
            generalize ds[q] = d at *
            have hcH := Lib.hid hc
            have c2 := (cell_mod hB2.mod h2 (by simp)).trans hc
            clear hc
            by_cases hl0 : ms = []
            · subst hl0
              have hl4 := fun ty w => hB2.ints.len ty w
              go_wp2_with fail
              refine (Both_none hB2 d).mono ?_
              rintro e w4 ⟨rfl, hB4⟩
              clear c2 hB2
              go_wp2_with fail
              have hl5 := fun ty w => hB4.ints.len ty w
              clear hl4
              refine (Both_listed hB4).mono ?_
              rintro e w6 ⟨lv, rfl, hB6, hi6⟩
              have hl6 := fun ty w => hB6.ints.len ty w
              clear hB4
              go_wp2_with fail
              refine (Both_same hB6 hi6).mono ?_
              rintro e w7 ⟨rfl, hB7⟩
              clear hB6 hi6
              go_wp2_with fail
              refine (Both_Len hB7).mono ?_
              rintro e w8 ⟨rfl, hB8⟩
              clear hB7
              go_wp2_with fail
              · refine (Both_Put hB8 q (by omega)).mono ?_
                rintro e w9 ⟨rfl, hB9⟩
                have hown9 : (w9.alloc (.cells #[] 3 (0, 0))).ownsRow 0 3 1 (.slice (some ⟨w9.heap.size, 0, none⟩) 0 0) 0 [] := World.ownsRow_made w9 #[] 0 (Nat.zero_le _) (Nat.zero_le _) rfl
                have hI9 := hB9.ints.sliceIn.mod ((Mod.refl [] w9).alloc (.cells #[] 3 (0, 0)))
                clear hB8 hl6
                go_wp2_with (first | (at_builtin; refine wpList_append_in _ rfl _ _ 45 rfl 3 i0 (.int .i64 0) 8 Try.underlying45 hi0 hz0 hz1 hz2 rfl (.slice (some ⟨w9.heap.size, 0, none⟩) 0 0) 0 [] rfl hown9 u8 _ rfl hI9 (by simp [Value.oneCell']) (by unfold maxLen; first | omega | (simp; done) | (simp; omega)) (by first | omega | (simp; done) | (simp; omega)) ?_; intro v1 w10 hown1 hgrow1 hfr1; simp only [Nat.zero_add, List.nil_append, List.length_map] at hown1) | (at_builtin; refine wpList_append_row _ rfl _ _ 45 rfl 3 i0 (.int .i64 0) 1 8 Try.underlying45 hi0 hz0 hz1 hz2 rfl (by decide) v1 (([] : List Int)).length _ rfl (hown1.alloc _) ⟨w10.heap.size, 0, none⟩ 1 1 [.int .i64 q] rfl rfl (cells1 _ _ _) (by simp [Value.oneCell']) (by unfold maxLen; first | omega | (simp; done) | (simp; omega)) (by first | omega | (simp; done) | (simp; omega)) ?_; intro mv6 w11 hown2 hgrow2 hfr2))
                have f1 : ∀ x, v1.ownBlock = some x → w9.heap.size ≤ x := fun x hx => by
                  rcases hfr1 x hx with h | h
                  · have hk' : some w9.heap.size = some x := h
                    have := Option.some.inj hk'; omega
                  · simp at h; omega
                have s1 : Mod [] w9 w10 := ((Mod.refl [] w9).alloc _).grown hgrow1 (fun k hk => .inr (by have hk' : some w9.heap.size = some k := hk; have := Option.some.inj hk'; omega))
                have s2 : Mod [] w9 w11 := (s1.alloc _).grown hgrow2 (fun k hk => .inr (f1 k hk))
                have hB11 := hB9.list s2 (row_ints (xs := (([] : List Int)) ++ [(q : Int)]) (by simpa using hown2) (by first | omega | (simp; done) | (simp; omega)) (by first | omega | (simp; done) | (simp; omega))) (fun x hx => by
                  rcases hfr2 x hx with h | h
                  · exact f1 x h
                  · have := s1.size; simp at h; omega)
                clear hB9 hown1 hown2 hgrow1 hgrow2 hfr1 hfr2 hown9 hI9 f1 s1 s2
                go_roundw
                case rel => exact ⟨q + 1, by omega, by go_num, _, by first | omega | (simp; done) | (simp; omega), hB11⟩
                case measure => simp [intOf]; omega
              · clear hl6
                go_roundw
                case rel => exact ⟨q + 1, by omega, by go_num, _, by first | omega | (simp; done) | (simp; omega), hB8⟩
                case measure => simp [intOf]; omega
            · have hn : 0 < ms.length := List.length_pos_iff.2 hl0
              have hpos : (0 : Int) < ms.length := by omega
              have e1 := Int.emod_nonneg d (show (ms.length : Int) ≠ 0 by omega)
              have e2 := Int.emod_lt_of_pos d hpos
              have hi : d % ms.length = (d % ms.length).toNat := by omega
              have hil : (d % ms.length).toNat < ms.length := by omega
              generalize (d % ms.length).toNat = i at *
              clear e1 e2 hpos
              have hiH := Lib.hid hi
              clear hi
              go_wp2_with fail
              refine (Both_Take hB2 d hd1 hd2 hn i hiH.out hil).mono ?_
              rintro e w4 ⟨rfl, hB4⟩
              have c4 := (cell_mod hB4.mod h2 (by simp)).trans hcH.out
              have hl4 := fun ty w => hB4.ints.len ty w
              clear c2 hB2
              go_wp2_with fail
              refine (Both_RTake hB4 d hd1 hd2 hn i hiH.out hil).mono ?_
              rintro e w5 ⟨mv5, rfl, hB5⟩
              have hl5 := fun ty w => hB5.ints.len ty w
              clear c4 hB4 hl4
              have hml5 : (takeAt ms i hn).length ≤ 20 + q := by rw [takeAt_length]; omega
              generalize takeAt ms i hn = ls at *
              go_wp2_with fail
              refine (Both_listed hB5).mono ?_
              rintro e w6 ⟨lv, rfl, hB6, hi6⟩
              have hl6 := fun ty w => hB6.ints.len ty w
              clear hB5
              go_wp2_with fail
              refine (Both_same hB6 hi6).mono ?_
              rintro e w7 ⟨rfl, hB7⟩
              clear hB6 hi6
              go_wp2_with fail
              refine (Both_Len hB7).mono ?_
              rintro e w8 ⟨rfl, hB8⟩
              clear hB7
              go_wp2_with fail
              · refine (Both_Put hB8 q (by omega)).mono ?_
                rintro e w9 ⟨rfl, hB9⟩
                have hown9 : (w9.alloc (.cells #[] 3 (0, 0))).ownsRow 0 3 1 (.slice (some ⟨w9.heap.size, 0, none⟩) 0 0) 0 [] := World.ownsRow_made w9 #[] 0 (Nat.zero_le _) (Nat.zero_le _) rfl
                have hI9 := hB9.ints.sliceIn.mod ((Mod.refl [] w9).alloc (.cells #[] 3 (0, 0)))
                clear hB8 hl6
                go_wp2_with (first | (at_builtin; refine wpList_append_in _ rfl _ _ 45 rfl 3 i0 (.int .i64 0) 8 Try.underlying45 hi0 hz0 hz1 hz2 rfl (.slice (some ⟨w9.heap.size, 0, none⟩) 0 0) 0 [] rfl hown9 mv5 _ rfl hI9 (by simp [Value.oneCell']) (by unfold maxLen; first | omega | (simp; done) | (simp; omega)) (by first | omega | (simp; done) | (simp; omega)) ?_; intro v1 w10 hown1 hgrow1 hfr1; simp only [Nat.zero_add, List.nil_append, List.length_map] at hown1) | (at_builtin; refine wpList_append_row _ rfl _ _ 45 rfl 3 i0 (.int .i64 0) 1 8 Try.underlying45 hi0 hz0 hz1 hz2 rfl (by decide) v1 (ls).length _ rfl (hown1.alloc _) ⟨w10.heap.size, 0, none⟩ 1 1 [.int .i64 q] rfl rfl (cells1 _ _ _) (by simp [Value.oneCell']) (by unfold maxLen; first | omega | (simp; done) | (simp; omega)) (by first | omega | (simp; done) | (simp; omega)) ?_; intro mv6 w11 hown2 hgrow2 hfr2))
                have f1 : ∀ x, v1.ownBlock = some x → w9.heap.size ≤ x := fun x hx => by
                  rcases hfr1 x hx with h | h
                  · have hk' : some w9.heap.size = some x := h
                    have := Option.some.inj hk'; omega
                  · simp at h; omega
                have s1 : Mod [] w9 w10 := ((Mod.refl [] w9).alloc _).grown hgrow1 (fun k hk => .inr (by have hk' : some w9.heap.size = some k := hk; have := Option.some.inj hk'; omega))
                have s2 : Mod [] w9 w11 := (s1.alloc _).grown hgrow2 (fun k hk => .inr (f1 k hk))
                have hB11 := hB9.list s2 (row_ints (xs := (ls) ++ [(q : Int)]) (by simpa using hown2) (by first | omega | (simp; done) | (simp; omega)) (by first | omega | (simp; done) | (simp; omega))) (fun x hx => by
                  rcases hfr2 x hx with h | h
                  · exact f1 x h
                  · have := s1.size; simp at h; omega)
                clear hB9 hown1 hown2 hgrow1 hgrow2 hfr1 hfr2 hown9 hI9 f1 s1 s2
                go_roundw
                case rel => exact ⟨q + 1, by omega, by go_num, _, by first | omega | (simp; done) | (simp; omega), hB11⟩
                case measure => simp [intOf]; omega
              · clear hl6
                go_roundw
                case rel => exact ⟨q + 1, by omega, by go_num, _, by first | omega | (simp; done) | (simp; omega), hB8⟩
                case measure => simp [intOf]; omega
        · obtain rfl : q = ds.length := by omega
          clear hs
          go_wp2_with fail
          refine (awake_ok _).mono ?_
          rintro e w4 ⟨rfl, hm4⟩
          have hB4 := hB2.then hm4
          clear hB2
          go_wp2_with fail
          refine (Both_listed hB4).mono ?_
          rintro e w6 ⟨lv, rfl, hB6, hi6⟩
          clear hB4
          go_wp2_with fail
          refine (Both_same hB6 hi6).mono ?_
          rintro e w7 ⟨rfl, hB7⟩
          clear hB6 hi6
          go_wp2_with fail
          go_ret
          exact ⟨rfl, hB7.mod⟩
    · go_enter Try.func5, Try.ntmps5
      clear hs
      go_wp2_with fail
      refine (awake_ok _).mono ?_
      rintro e w1 ⟨rfl, hm1⟩
      go_wp2_with fail
      refine (awake_ok _).mono ?_
      rintro e w2 ⟨rfl, hm2⟩
      go_wp2_with fail
      go_ret
      exact ⟨rfl, hm1.trans hm2⟩
  · go_enter Try.func5, Try.ntmps5
    clear hs
    go_wp2_with fail
    refine (awake_ok _).mono ?_
    rintro e w1 ⟨rfl, hm1⟩
    go_wp2_with fail
    refine (awake_ok _).mono ?_
    rintro e w2 ⟨rfl, hm2⟩
    go_wp2_with fail
    go_ret
    exact ⟨rfl, hm1.trans hm2⟩
end Go.Proofs.Ytnlfcfobdefflaa
