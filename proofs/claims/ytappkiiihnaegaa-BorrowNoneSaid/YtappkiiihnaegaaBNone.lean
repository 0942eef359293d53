/- BorrowNone: ledgers without borrows, nil or not, and the walk of the law. -/
import Derived.Test.YtappkiiihnaegaaBLaw
import Derived.Test.YtappkiiihnaegaaFrame
namespace Go.Proofs.Ytappkiiihnaegaa
open Go Go.RowKit Go.Stg

theorem release_none {w : World} {p : Option Addr} (h : LedV w p []) (o k : Int) :
    Calls Try.prog 14 #[.pointer p, .int .i64 o, .int .i64 k] w fun e w' => e = .returned (.int .i64 13) ∧ Mod [] w w' := by
  have hh := holds_ok h List.Pairwise.nil o k
  have e0 : foundV (getB [] (o, k)) = .tuple #[.agg #[.int .i64 0, .int .i64 0, .int .i64 0, .int .i64 0], .bool false] := rfl
  rw [e0] at hh
  have hhH := Lib.hid hh
  clear h hh e0
  go_enter Try.func14, Try.ntmps14
  go_wp2_with fail
  refine hhH.out.mono ?_
  rintro e w1 ⟨rfl, hm⟩
  have hm1 := Lib.hid (hm.alloc (.cells #[.int .i64 0, .int .i64 0, .int .i64 0, .int .i64 0] 25))
  clear hm hhH
  go_wp2_with fail
  go_ret
  exact ⟨rfl, hm1.out⟩
theorem row_nil_len {w : World} {base sz : Nat} {e : TypeId} {v : Value} (h : w.ownsRow base e sz v 0 []) : ∃ a c, v = .slice a 0 c := by
  rcases row_cases h with ⟨rfl, _⟩ | ⟨g, cap, rfl, _⟩
  · exact ⟨_, _, rfl⟩
  · exact ⟨_, _, rfl⟩
theorem endO_none {w : World} {p : Option Addr} (h : LedV w p []) (o : Int) :
    Calls Try.prog 27 #[.pointer p, .int .i64 o] w fun e w' => (∃ a c, e = .returned (.slice a 0 c)) ∧ Mod [] w w' := by
  have hh := Lib.hid (of_ok h List.Pairwise.nil (by simp) o)
  clear h
  go_enter Try.func27, Try.ntmps27
  go_wp2_with fail
  refine hh.out.mono ?_
  rintro e w1 ⟨v, rfl, hr, hm⟩
  obtain ⟨a, c, rfl⟩ := row_nil_len hr
  have hm1 := Lib.hid hm
  clear hm hh hr
  go_wp2_with fail
  go_loopw [13] (fun i wr => i = .int .i64 0 ∧ Mod [] w wr) (fun i _ => 0)
  case atStart => exact ⟨rfl, hm1.out⟩
  case round =>
    obtain ⟨rfl, hm⟩ := hrel
    have hm2 := Lib.hid hm
    clear hm hm1
    go_wp2_with fail
    go_ret
    exact ⟨⟨_, _, rfl⟩, hm2.out⟩
theorem endH_none {w : World} {p : Option Addr} (h : LedV w p []) (o : Int) :
    Calls Try.prog 25 #[.pointer p, .int .i64 o] w fun e w' => e = .returned (.int .i64 0) ∧ Mod [] w w' := by
  have hh := Lib.hid (heldl_ok h List.Pairwise.nil (by simp) o)
  clear h
  go_enter Try.func25, Try.ntmps25
  go_wp2_with fail
  refine hh.out.mono ?_
  rintro e w1 ⟨v, rfl, hr, hm⟩
  obtain ⟨a, c, rfl⟩ := row_nil_len hr
  have hm1 := Lib.hid hm
  clear hm hh hr
  go_wp2_with fail
  go_loopw [13] (fun i wr => i = .int .i64 0 ∧ Mod [] w wr) (fun i _ => 0)
  case atStart => exact ⟨rfl, hm1.out⟩
  case round =>
    obtain ⟨rfl, hm⟩ := hrel
    have hm2 := Lib.hid hm
    clear hm hm1
    go_wp2_with fail
    go_ret
    exact ⟨rfl, hm2.out⟩
theorem lend_none (w : World) (o k : Int) : Calls Try.prog 12 #[.pointer none, .int .i64 o, .int .i64 k, .int .i64 1] w fun e w' => e = .returned (.int .i64 1) ∧ Mod [] w w' := by
  go_enter Try.func12, Try.ntmps12
  go_wp2_with fail
  go_ret
  exact ⟨rfl, Mod.refl _ _⟩
theorem led_zero {w : World} {z : Nat} (h : w.heap[z]? = some (.cells #[.map none, .map none] 55 (0, 0))) : LedV w (some ⟨z, 0, none⟩) [] := .inr ⟨z, [z], rfl, .inl ⟨h, rfl, rfl⟩⟩
theorem led_zeroC {w : World} {z : Nat} (h : w.heap[z]? = some (.cells #[.map none, .map none] 55 (0, 0))) : (ledC z []).on w [z] := .inl ⟨h, rfl, rfl⟩
theorem lend0 (o _k : Int) : lendE [] o 1 = 0 := by
  unfold lendE modeO; simp [ofO_nil]

set_option maxHeartbeats 8000000 in
set_option maxRecDepth 20000 in
theorem none_walk (o h n : Int) (n0 : 0 ≤ n) (n1 : n ≤ 255) (w : World) :
    Calls Try.prog 9 #[.int .i64 o, .int .i64 h, .int .u8 n] w fun e w' => e = .returned (.bool true) ∧ Mod [] w w' := by
  have e0 : foundV (getB [] (o, h)) = .tuple #[.agg #[.int .i64 0, .int .i64 0, .int .i64 0, .int .i64 0], .bool false] := rfl
  have e0H := Lib.hid e0
  clear e0
  go_enter Try.func9, Try.ntmps9
  go_wp2_with fail
  have hW0 := Lib.hid (((Mod.refl [] w).alloc (.cells #[.map none, .map none] 55)).alloc (.cells #[.pointer none, .pointer (some ⟨w.heap.size, 0, none⟩)] 22))
  have hzH := Lib.hid (led_zero (at_alloc_old (o := .cells #[.pointer none, .pointer (some ⟨w.heap.size, 0, none⟩)] 22) (at_alloc w (.cells #[.map none, .map none] 55))))
  have hb := at_alloc (w.alloc (.cells #[.map none, .map none] 55)) (.cells #[.pointer none, .pointer (some ⟨w.heap.size, 0, none⟩)] 22)
  rw [show (w.alloc (.cells #[.map none, .map none] 55)).heap.size = w.heap.size + 1 from by simp] at hb
  have hbH := Lib.hid hb
  generalize w.heap.size = z at *
  generalize z + 1 = sl at *
  generalize (w.alloc (.cells #[.map none, .map none] 55)).alloc (.cells #[.pointer none, .pointer (some ⟨z, 0, none⟩)] 22) = W0 at *
  clear hb
  go_loopw [23] (fun i wr => ∃ j : Nat, j ≤ 2 ∧ i = .int .i64 j ∧ Mod [] W0 wr) (fun i _ => 2 - (intOf i).toNat)
  case atStart => exact ⟨0, by omega, rfl, Mod.refl _ _⟩
  case round =>
    obtain ⟨j, hj, rfl, hm0⟩ := hrel
    have hm := Lib.hid hm0
    have c0 : wr.cell? ⟨sl, 0, none⟩ = some (.pointer none) := cells_of (hm0.at hbH.out (by simp)) 0
    have c1 : wr.cell? ⟨sl, 1, none⟩ = some (.pointer (some ⟨z, 0, none⟩)) := cells_of (hm0.at hbH.out (by simp)) 1
    clear hm0
    by_cases hj0 : j = 0
    · subst hj0
      have hVH : Hid (LedV wr none []) := Lib.hid (.inl ⟨rfl, rfl⟩)
      have hqH := Lib.hid (rled_alloc (Scene.empty wr))
      have hWwr := hm.out
      clear hm
      have hmH := Lib.hid hWwr
      clear hWwr
      go_wp2_with fail
      generalize wr.heap.size = rq at *
      generalize wr.alloc (.cells #[.slice none 0 0] 38) = w3 at *
      refine (holds_ok (hVH.out.mod hqH.out.mod) List.Pairwise.nil o h).mono ?_
      rw [e0H.out]
      rintro e w4 ⟨rfl, hm4⟩
      have hq4 := Lib.hid ((hqH.out.then hm4).then ((Mod.refl [] w4).alloc (.cells #[.int .i64 0, .int .i64 0, .int .i64 0, .int .i64 0] 25)))
      clear hm4 hqH c0 c1
      go_wp2_with fail
      refine (release_none (hVH.out.mod hq4.out.mod) o h).mono ?_
      rintro e w5 ⟨rfl, hm5⟩
      have hq5 := Lib.hid (hq4.out.then hm5)
      clear hm5 hq4
      go_wp2_with fail
      refine (access_ok (hVH.out.mod hq5.out.mod) (LInv.nil 0) (by simp) o h true (n % 6)).mono ?_
      rintro e w6 ⟨rfl, hm6⟩
      have hq6 := Lib.hid (hq5.out.then hm6)
      clear hm6 hq5
      go_wp2_with fail
      refine (sc_raccess 0 hq6.out BInv.nil (by omega) rfl o h true (n % 6)).mono ?_
      rintro e w7 ⟨rfl, hm7⟩
      have hq7 := Lib.hid (hq6.out.then hm7)
      have hze : ∀ v : Int, (v != v) = false := fun v => by simp
      clear hm7 hq6
      go_wp2_with fail
      refine (access_ok (hVH.out.mod hq7.out.mod) (LInv.nil 0) (by simp) o h false (n % 6)).mono ?_
      rintro e w8 ⟨rfl, hm8⟩
      have hq8 := Lib.hid (hq7.out.then hm8)
      clear hm8 hq7
      go_wp2_with fail
      refine (sc_raccess 0 hq8.out BInv.nil (by omega) rfl o h false (n % 6)).mono ?_
      rintro e w9 ⟨rfl, hm9⟩
      have hq9 := Lib.hid (hq8.out.then hm9)
      clear hm9 hq8
      go_wp2_with fail
      refine (of_ok (hVH.out.mod hq9.out.mod) List.Pairwise.nil (by simp) o).mono ?_
      rintro e w10 ⟨v, rfl, hr, hm10⟩
      obtain ⟨ua, uc, rfl⟩ := row_nil_len hr
      have hq10 := Lib.hid (hq9.out.then hm10)
      clear hm10 hq9 hr
      go_wp2_with fail
      refine (held_ok (hVH.out.mod hq10.out.mod) List.Pairwise.nil (by simp) h).mono ?_
      rintro e w11 ⟨rfl, hm11⟩
      have hq11 := Lib.hid (hq10.out.then hm11)
      clear hm11 hq10
      rw [show ((heldH [] h).length : Int) = 0 from rfl]
      go_wp2_with fail
      refine (endO_none (hVH.out.mod hq11.out.mod) o).mono ?_
      rintro e w12 ⟨⟨va, vc, rfl⟩, hm12⟩
      have hq12 := Lib.hid (hq11.out.then hm12)
      clear hm12 hq11
      go_wp2_with fail
      refine (endH_none (hVH.out.mod hq12.out.mod) h).mono ?_
      rintro e w13 ⟨rfl, hm13⟩
      have hq13 := Lib.hid (hq12.out.then hm13)
      clear hm13 hq12
      go_wp2_with fail
      refine (listed_ok (hVH.out.mod hq13.out.mod) List.Pairwise.nil (by simp)).mono ?_
      rintro e w14 ⟨v, rfl, hr, hm14⟩
      obtain ⟨ta, tc, rfl⟩ := row_nil_len hr
      have hq14 := Lib.hid (hmH.out.nil_then (hq13.out.then hm14).mod)
      clear hm14 hq13 hr
      go_wp2_with fail
      go_roundw
      case rel => exact ⟨1, by omega, by go_num, hq14.out⟩
      case measure => simp [intOf]
    · by_cases hj1 : j = 1
      · subst hj1
        have hVH : Hid (LedV wr (some ⟨z, 0, none⟩) []) := Lib.hid (hzH.out.mod hm.out)
        have hqH := Lib.hid (rled_alloc (Scene.empty wr))
        have hWwr := hm.out
        clear hm
        have hmH := Lib.hid hWwr
        clear hWwr
        go_wp2_with fail
        generalize wr.heap.size = rq at *
        generalize wr.alloc (.cells #[.slice none 0 0] 38) = w3 at *
        refine (holds_ok (hVH.out.mod hqH.out.mod) List.Pairwise.nil o h).mono ?_
        rw [e0H.out]
        rintro e w4 ⟨rfl, hm4⟩
        have hq4 := Lib.hid ((hqH.out.then hm4).then ((Mod.refl [] w4).alloc (.cells #[.int .i64 0, .int .i64 0, .int .i64 0, .int .i64 0] 25)))
        clear hm4 hqH c0 c1
        go_wp2_with fail
        refine (release_none (hVH.out.mod hq4.out.mod) o h).mono ?_
        rintro e w5 ⟨rfl, hm5⟩
        have hq5 := Lib.hid (hq4.out.then hm5)
        clear hm5 hq4
        go_wp2_with fail
        refine (access_ok (hVH.out.mod hq5.out.mod) (LInv.nil 0) (by simp) o h true (n % 6)).mono ?_
        rintro e w6 ⟨rfl, hm6⟩
        have hq6 := Lib.hid (hq5.out.then hm6)
        clear hm6 hq5
        go_wp2_with fail
        refine (sc_raccess 0 hq6.out BInv.nil (by omega) rfl o h true (n % 6)).mono ?_
        rintro e w7 ⟨rfl, hm7⟩
        have hq7 := Lib.hid (hq6.out.then hm7)
        have hze : ∀ v : Int, (v != v) = false := fun v => by simp
        clear hm7 hq6
        go_wp2_with fail
        refine (access_ok (hVH.out.mod hq7.out.mod) (LInv.nil 0) (by simp) o h false (n % 6)).mono ?_
        rintro e w8 ⟨rfl, hm8⟩
        have hq8 := Lib.hid (hq7.out.then hm8)
        clear hm8 hq7
        go_wp2_with fail
        refine (sc_raccess 0 hq8.out BInv.nil (by omega) rfl o h false (n % 6)).mono ?_
        rintro e w9 ⟨rfl, hm9⟩
        have hq9 := Lib.hid (hq8.out.then hm9)
        clear hm9 hq8
        go_wp2_with fail
        refine (of_ok (hVH.out.mod hq9.out.mod) List.Pairwise.nil (by simp) o).mono ?_
        rintro e w10 ⟨v, rfl, hr, hm10⟩
        obtain ⟨ua, uc, rfl⟩ := row_nil_len hr
        have hq10 := Lib.hid (hq9.out.then hm10)
        clear hm10 hq9 hr
        go_wp2_with fail
        refine (held_ok (hVH.out.mod hq10.out.mod) List.Pairwise.nil (by simp) h).mono ?_
        rintro e w11 ⟨rfl, hm11⟩
        have hq11 := Lib.hid (hq10.out.then hm11)
        clear hm11 hq10
        rw [show ((heldH [] h).length : Int) = 0 from rfl]
        go_wp2_with fail
        refine (endO_none (hVH.out.mod hq11.out.mod) o).mono ?_
        rintro e w12 ⟨⟨va, vc, rfl⟩, hm12⟩
        have hq12 := Lib.hid (hq11.out.then hm12)
        clear hm12 hq11
        go_wp2_with fail
        refine (endH_none (hVH.out.mod hq12.out.mod) h).mono ?_
        rintro e w13 ⟨rfl, hm13⟩
        have hq13 := Lib.hid (hq12.out.then hm13)
        clear hm13 hq12
        go_wp2_with fail
        refine (listed_ok (hVH.out.mod hq13.out.mod) List.Pairwise.nil (by simp)).mono ?_
        rintro e w14 ⟨v, rfl, hr, hm14⟩
        obtain ⟨ta, tc, rfl⟩ := row_nil_len hr
        have hq14 := Lib.hid (hmH.out.nil_then (hq13.out.then hm14).mod)
        clear hm14 hq13 hr
        go_wp2_with fail
        go_roundw
        case rel => exact ⟨2, by omega, by go_num, hq14.out⟩
        case measure => simp [intOf]
      · obtain rfl : j = 2 := by omega
        have hm2 := Lib.hid (hW0.out.nil_then hm.out)
        have hZH := Lib.hid ((Scene.empty w).then hm2.out |>.add (c := ledC wr.heap.size []) ((Mod.refl [] wr).alloc _) (led_zeroC (at_alloc wr _)) (by simp))
        clear c0 c1 hm hj hj0 hj1
        go_wp2_with fail
        refine (awake_ok _).mono ?_
        rintro e w5 ⟨rfl, hm5⟩
        have hZ5 := Lib.hid (hZH.out.then hm5)
        generalize wr.heap.size = q at *
        clear hm5 hZH
        go_wp2_with fail
        refine (lend_none w5 o h).mono ?_
        rintro e w6 ⟨rfl, hm6⟩
        have hZ6 := Lib.hid (hZ5.out.then hm6)
        clear hm6 hZ5
        go_wp2_with fail
        refine (sc_lend 0 hZ6.out BInv.nil (by omega) rfl o h 1).mono ?_
        rw [lend0 o h]
        rintro e w7 ⟨rfl, hS7⟩
        have hm7 := Lib.hid hS7.mod
        clear hS7 hZ6
        go_wp2_with fail
        go_ret
        exact ⟨rfl, hm7.out⟩
end Go.Proofs.Ytappkiiihnaegaa
