/- TyperegPlays: the walk of the law. -/
import Derived.Test.YtkkjlioigdpacaaRegRaw
import Derived.Test.YtkkjlioigdpacaaTapeC
namespace Go.Proofs.Ytkkjlioigdpacaa
open Go Go.RowKit Go.Stg

set_option maxHeartbeats 8000000 in
set_option maxRecDepth 10000 in
theorem plays_walk (lv : Value) (xs : List Int) (rv : Value) (L : List (Ty × Value)) (tag : Int) (t0 : -128 ≤ tag) (t1 : tag ≤ 127) (w : World) (hx : NumsAt w lv xs) (hL : RawAt w rv L) :
    Calls Try.prog 6 #[lv, rv, .int .i8 tag] w fun e w' => e = .returned (.bool true) ∧ Mod [] w w' := by
  have hln := fun ty w => hL.len ty w
  have hsm := hL.small
  have hLH := Lib.hid hL
  have hxH := Lib.hid hx
  clear hx
  by_cases h8 : 8 < L.length
  · clear hL
    go_enter Try.func6, Try.ntmps6
    go_wp2_with fail
    refine (awake_ok _).mono ?_
    rintro e w1 ⟨rfl, hm1⟩
    go_wp2_with fail
    go_ret
    exact ⟨rfl, hm1⟩
  · obtain ⟨ra, rn, rc, rfl⟩ : ∃ a n c, rv = .slice a n c := by
      rcases hL with ⟨h, _⟩ | ⟨_, _, _, h, _⟩ <;> exact ⟨_, _, _, h⟩
    clear hL
    go_enter Try.func6, Try.ntmps6
    go_wp2_with fail
    refine (sc_new (Scene.empty w)).mono ?_
    rintro e w1 ⟨rb, rfl, _, hS⟩
    have hS := hS.add (c := regC 49 w1.heap.size []) ((Mod.refl [] w1).alloc (.cells #[.slice none 0 0] 49)) (reg_fresh 49 (at_alloc w1 _)) (by simp)
    have hSH := Lib.hid hS
    clear hS
    go_wp2_with fail
    generalize w1.heap.size = rm at *
    refine (sc_of hSH.out lv xs 80 (by omega) (hxH.out.mod hSH.out.mod (by simp))).mono ?_
    rintro e w2 ⟨b, A, B, rfl, hS2⟩
    have hS2H := Lib.hid hS2
    clear hS2 hSH hxH
    go_wp2_with fail
    go_loopw [10] (fun i wr => ∃ (k : Nat) (R : List Ty), k ≤ 12 ∧ i = .int .i64 k ∧ Scene [] w [tapeC b (12 * k) A B, regC 49 rm R, regC 58 rb R] wr) (fun i _ => 12 - (intOf i).toNat)
    case atStart => exact ⟨0, [], by omega, rfl, hS2H.out⟩
    case round =>
      obtain ⟨k, R, hk, rfl, hS⟩ := hrel
      have hSH := Lib.hid hS
      clear hS hS2H
      by_cases hk1 : k < 12
      · go_wp2_with fail
        refine (sc_type hSH.out (by omega)).mono ?_
        rintro e w3 ⟨len, g, cap, fs, rfl, hM, hS3⟩
        obtain ⟨l1, l2, l3, l4⟩ := made_bounds hM
        have hS30 := Lib.hid hS3
        have hS3 := hS3.alloc (.cells #[.int .i64 len, .slice (some ⟨g, 0, none⟩) fs.length cap] 31)
        have hb3 := hS3.block 0 rfl
        have c11 := cells_of hb3
        have f11 := frozen_of hb3
        clear hSH hM hb3
        by_cases hkL : k < L.length
        · have hLk := (hLH.out.mod hS3.mod)
          rcases hLk with ⟨_, rfl⟩ | ⟨sb, so, cap', e, g2, g3, g4⟩
          · simp at hkL
          · simp at e
            obtain ⟨rfl, rfl, rfl⟩ := e
            obtain ⟨⟨u0, u1⟩, hFW, hxb⟩ := g4 k hkL
            have hFWH := Lib.hid fun w' (hm : Mod [] w w') => ((by
              rcases hLH.out.mod hm with ⟨h, _⟩ | ⟨sb', so', cap'', e', _, _, g4'⟩
              · simp at h
              · exact (g4' k hkL).2.1) : FieldsW w' L[k].2 L[k].1.2)
            have hfl := fun ty w => hFW.len ty w
            obtain ⟨ya, ym, yc, hy⟩ := hFW.slice
            clear hFW g4
            generalize L[k] = z at *
            obtain ⟨⟨zl, zf⟩, zv⟩ := z
            simp only at hy u0 u1 hfl hFWH hxb
            subst hy
            by_cases h40 : zf.length ≤ 40
            · clear hS3 c11 f11
              go_wp2_with fail
              have hS3 := hS30.out.alloc (.cells #[.int .i64 zl, .slice ya ym yc] 31)
              have c11 := cells_of (hS3.block 0 rfl)
              have hS3H := Lib.hid hS3
              clear hS3 hS30
              refine (sc_registerW 4 hS3H.out rfl (hFWH.out _ hS3H.out.mod) hxb.1 hxb.2).mono ?_
              rintro e w4 ⟨rfl, hS4⟩
              have c11 := cells_of (hS4.block 0 rfl)
              have hS4H := Lib.hid hS4
              unfold regV
              clear hS3H hS4
              go_wp2_with fail
              refine (sc_rregisterW 3 hS4H.out rfl (hFWH.out _ hS4H.out.mod) hxb.1 hxb.2).mono ?_
              rintro e w5 ⟨rfl, hS5⟩
              have hS5H := Lib.hid hS5
              unfold regV
              generalize regTag R (zl, zf) = rt
              generalize regErr R (zl, zf) = re
              generalize hR' : regN R (zl, zf) = R' at hS5
              have z1 : (rt == rt) = true := by simp
              have z2 : (re == re) = true := by simp
              obtain ⟨f1, hr1, _⟩ := hS5.part 4 rfl
              obtain ⟨f2, hr2, _⟩ := hS5.part 3 rfl
              have hA := Lib.hid (alike_ok hr1 hr2 tag)
              have hS6 := Lib.hid ((hS5.erase 0).erase 0)
              clear hS4H c11 hS5 hS5H hr1 hr2 hR'
              go_wp2_with fail
              refine hA.out.mono ?_
              rintro e w6 ⟨rfl, hm6⟩
              have hS7 := Lib.hid (hS6.out.then hm6)
              clear hA hS6 hm6
              go_wp2_with fail
              go_roundw
              case rel => exact ⟨k + 1, R', by omega, by go_num, hS7.out⟩
              case measure => simp [intOf]; omega
            · have hxb : -9223372036854775808 ≤ len ∧ len ≤ 9223372036854775807 := by omega
              clear hFWH
              have hS3H := Lib.hid hS3
              clear hS3
              go_wp2_with fail
              refine (sc_registerW 4 hS3H.out rfl (.inl (row_fields (hS3H.out.row 1 rfl) rfl)) hxb.1 hxb.2).mono ?_
              rintro e w4 ⟨rfl, hS4⟩
              have c11 := cells_of (hS4.block 0 rfl)
              have hS4H := Lib.hid hS4
              unfold regV
              clear hS3H hS4
              go_wp2_with fail
              refine (sc_rregisterW 3 hS4H.out rfl (.inl (row_fields (hS4H.out.row 1 rfl) rfl)) hxb.1 hxb.2).mono ?_
              rintro e w5 ⟨rfl, hS5⟩
              have hS5H := Lib.hid hS5
              unfold regV
              generalize regTag R (len, fs) = rt
              generalize regErr R (len, fs) = re
              generalize hR' : regN R (len, fs) = R' at hS5
              have z1 : (rt == rt) = true := by simp
              have z2 : (re == re) = true := by simp
              obtain ⟨f1, hr1, _⟩ := hS5.part 4 rfl
              obtain ⟨f2, hr2, _⟩ := hS5.part 3 rfl
              have hA := Lib.hid (alike_ok hr1 hr2 tag)
              have hS6 := Lib.hid ((hS5.erase 0).erase 0)
              clear hS4H c11 hS5 hS5H hr1 hr2 hR'
              go_wp2_with fail
              refine hA.out.mono ?_
              rintro e w6 ⟨rfl, hm6⟩
              have hS7 := Lib.hid (hS6.out.then hm6)
              clear hA hS6 hm6
              go_wp2_with fail
              go_roundw
              case rel => exact ⟨k + 1, R', by omega, by go_num, hS7.out⟩
              case measure => simp [intOf]; omega
        · have hxb : -9223372036854775808 ≤ len ∧ len ≤ 9223372036854775807 := by omega
          have hS3H := Lib.hid hS3
          clear hS3
          go_wp2_with fail
          refine (sc_registerW 4 hS3H.out rfl (.inl (row_fields (hS3H.out.row 1 rfl) rfl)) hxb.1 hxb.2).mono ?_
          rintro e w4 ⟨rfl, hS4⟩
          have c11 := cells_of (hS4.block 0 rfl)
          have hS4H := Lib.hid hS4
          unfold regV
          clear hS3H hS4
          go_wp2_with fail
          refine (sc_rregisterW 3 hS4H.out rfl (.inl (row_fields (hS4H.out.row 1 rfl) rfl)) hxb.1 hxb.2).mono ?_
          rintro e w5 ⟨rfl, hS5⟩
          have hS5H := Lib.hid hS5
          unfold regV
          generalize regTag R (len, fs) = rt
          generalize regErr R (len, fs) = re
          generalize hR' : regN R (len, fs) = R' at hS5
          have z1 : (rt == rt) = true := by simp
          have z2 : (re == re) = true := by simp
          obtain ⟨f1, hr1, _⟩ := hS5.part 4 rfl
          obtain ⟨f2, hr2, _⟩ := hS5.part 3 rfl
          have hA := Lib.hid (alike_ok hr1 hr2 tag)
          have hS6 := Lib.hid ((hS5.erase 0).erase 0)
          clear hS4H c11 hS5 hS5H hr1 hr2 hR'
          go_wp2_with fail
          refine hA.out.mono ?_
          rintro e w6 ⟨rfl, hm6⟩
          have hS7 := Lib.hid (hS6.out.then hm6)
          clear hA hS6 hm6
          go_wp2_with fail
          go_roundw
          case rel => exact ⟨k + 1, R', by omega, by go_num, hS7.out⟩
          case measure => simp [intOf]; omega
      · obtain rfl : k = 12 := by omega
        go_wp2_with fail
        refine (awake_ok _).mono ?_
        rintro e w3 ⟨rfl, hm3⟩
        have hmm := hSH.out.mod.nil_then hm3
        clear hSH hm3
        go_wp2_with fail
        go_ret
        exact ⟨rfl, hmm⟩
end Go.Proofs.Ytkkjlioigdpacaa
