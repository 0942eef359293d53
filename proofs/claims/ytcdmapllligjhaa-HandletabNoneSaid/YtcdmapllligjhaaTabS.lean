/- The handle table as a part of a scene; the example of the chapter; small functions of the laws. -/
import Derived.Test.YtcdmapllligjhaaTabN
namespace Go.Proofs.Ytcdmapllligjhaa
open Go Go.RowKit Go.Stg

section
variable {F : List Nat} {W w : World} {cs : List Comp} {n : Nat} {first : Int} {x : TS} (i : Nat) (h : Scene F W cs w) (hI : TInv n first x) (hn : n ≤ 4096)
section
variable {tb b pb : Nat} {ev sl : Value} (hi : cs[i]? = some (tabC tb ev b pb sl first x))
include h hi hI hn
theorem sc_tissue (hf1 : 1 ≤ first) (hf2 : first ≤ 4294967295) (owner tag off len d : Int) (hd : 0 ≤ d) (hd2 : d ≤ 18446744073709551615) :
    Calls Try.prog 10 #[.pointer (some ⟨tb, 0, none⟩), .int .i64 owner, .int .i64 tag, .agg #[.int .i64 off, .int .i64 len], .int .u64 d] w fun e w' => e = .returned (issW first x owner tag d) ∧ Scene F W (cs.set i (tabC tb ev b pb sl first (issT first x owner tag off len d))) w' :=
  h.call i hi fun _ hc => tissue_ok hI hn hf1 hf2 owner tag off len d hd hd2 hc
theorem sc_tdrop (k : Int) (h0 : 0 ≤ k) (h1 : k ≤ 18446744073709551615) : Calls Try.prog 11 #[.pointer (some ⟨tb, 0, none⟩), .int .u64 k] w fun e w' => e = .returned (.int .i64 (resE x k)) ∧ Scene F W (cs.set i (tabC tb ev b pb sl first (dropT x k))) w' :=
  h.call i hi fun _ hc => tdrop_ok hI hn k h0 h1 hc
theorem sc_tgive (k : Int) (h0 : 0 ≤ k) (h1 : k ≤ 18446744073709551615) (owner : Int) : Calls Try.prog 15 #[.pointer (some ⟨tb, 0, none⟩), .int .u64 k, .int .i64 owner] w fun e w' => e = .returned (.int .i64 (giveE x k owner)) ∧ Scene F W (cs.set i (tabC tb ev b pb sl first (giveT x k owner))) w' :=
  h.call i hi fun _ hc => tgive_ok hI hn k h0 h1 owner hc
theorem sc_resolve (k : Int) (h0 : 0 ≤ k) (h1 : k ≤ 18446744073709551615) : Calls Try.prog 12 #[.pointer (some ⟨tb, 0, none⟩), .int .u64 k] w fun e w' => e = .returned (resV x k) ∧ Scene F W cs w' :=
  h.look (Q := fun e _ => e = .returned (resV x k)) i hi fun _ ⟨_, hA, hH⟩ => resolve_ok hI hA k h0 h1 hn (Scene.start hH)
end
section
variable {tb b : Nat} {ev gv lv : Value} (hi : cs[i]? = some (rtabC tb ev b gv lv first x))
include h hi hI hn
theorem sc_rtissue (hf1 : 1 ≤ first) (hf2 : first ≤ 4294967295) (owner tag off len d : Int) (hd : 0 ≤ d) (hd2 : d ≤ 18446744073709551615) :
    Calls Try.prog 40 #[.pointer (some ⟨tb, 0, none⟩), .int .i64 owner, .int .i64 tag, .agg #[.int .i64 off, .int .i64 len], .int .u64 d] w fun e w' => e = .returned (issW first x owner tag d) ∧ Scene F W (cs.set i (rtabC tb ev b gv lv first (issT first x owner tag off len d))) w' :=
  h.call i hi fun _ hc => rtissue_ok hI hn hf1 hf2 owner tag off len d hd hd2 hc
theorem sc_rtdrop (k : Int) (h0 : 0 ≤ k) (h1 : k ≤ 18446744073709551615) : Calls Try.prog 23 #[.pointer (some ⟨tb, 0, none⟩), .int .u64 k] w fun e w' => e = .returned (.int .i64 (resE x k)) ∧ Scene F W (cs.set i (rtabC tb ev b gv lv first (dropT x k))) w' :=
  h.call i hi fun _ hc => rtdrop_ok hI hn k h0 h1 hc
theorem sc_rtgive (k : Int) (h0 : 0 ≤ k) (h1 : k ≤ 18446744073709551615) (owner : Int) : Calls Try.prog 22 #[.pointer (some ⟨tb, 0, none⟩), .int .u64 k, .int .i64 owner] w fun e w' => e = .returned (.int .i64 (giveE x k owner)) ∧ Scene F W (cs.set i (rtabC tb ev b gv lv first (giveT x k owner))) w' :=
  h.call i hi fun _ hc => rtgive_ok hI hn k h0 h1 owner hc
theorem sc_rresolve (k : Int) (h0 : 0 ≤ k) (h1 : k ≤ 18446744073709551615) : Calls Try.prog 21 #[.pointer (some ⟨tb, 0, none⟩), .int .u64 k] w fun e w' => e = .returned (resV x k) ∧ Scene F W cs w' :=
  h.look (Q := fun e _ => e = .returned (resV x k)) i hi fun _ ⟨_, hA, hH⟩ => rresolve_ok hI hA k h0 h1 hn (Scene.start hH)
end
end
theorem resV_bad {x : TS} {h e : Int} (he : resE x h = e) (h0 : e ≠ 0) : resV x h = .tuple #[.agg #[.int .u64 0, .int .i64 0, .int .i64 0, .int .i64 0, .int .i64 0], .int .i64 e] := by
  unfold resV resN
  rw [he, if_neg h0]
  rfl
theorem tawake_ok (w : World) : Calls Try.prog 13 #[] w fun e w' => e = .returned (.bool true) ∧ Mod [] w w' := by
  have hI0 := TInv.start 4 1
  have hI1 := hI0.issue (by omega) (by omega) 1 7 0 16 0
  have e1 : issW 1 (start 4) 1 7 0 = .tuple #[.int .u64 504403158282272768, .int .i64 0] := by
    unfold issW
    rw [show issH 1 (start 4) 1 7 0 = 504403158282272768 by decide +kernel, show issE (start 4) 1 7 = 0 by decide +kernel]
  have e2 := resV_bad (show resE (issT 1 (start 4) 1 7 0 16 0) 576460752320200704 = 12 by decide +kernel) (by omega)
  have e3 := resV_bad (show resE (issT 1 (start 4) 1 7 0 16 0) 504403158299049984 = 11 by decide +kernel) (by omega)
  have hN := Lib.hid (tnew_ok 4 1 (by omega) (by omega) (by omega) (Scene.empty w))
  have H1 := Lib.hid fun (w' : World) tb ev b pb sl (h : Scene [] w [tabC tb ev b pb sl 1 (start 4)] w') => sc_tissue 0 h hI0 (by omega) rfl (by omega) (by omega) 1 7 0 16 0 (by omega) (by omega)
  have H2 := Lib.hid fun (w' : World) tb ev b pb sl (h : Scene [] w [tabC tb ev b pb sl 1 (issT 1 (start 4) 1 7 0 16 0)] w') => sc_resolve 0 h hI1 (by omega) rfl 576460752320200704 (by omega) (by omega)
  have H3 := Lib.hid fun (w' : World) tb ev b pb sl (h : Scene [] w [tabC tb ev b pb sl 1 (issT 1 (start 4) 1 7 0 16 0)] w') => sc_resolve 0 h hI1 (by omega) rfl 504403158299049984 (by omega) (by omega)
  rw [e1] at H1
  rw [e2] at H2
  rw [e3] at H3
  clear e1 e2 e3 hI0 hI1
  generalize issT 1 (start 4) 1 7 0 16 0 = x1 at *
  generalize start 4 = x0 at *
  go_enter Try.func13, Try.ntmps13
  go_wp2_with fail
  refine hN.out.mono ?_
  rintro e w1 ⟨tb, ev, b, pb, sl, rfl, hS1⟩
  have hS1 := Lib.hid hS1
  go_wp2_with fail
  refine (H1.out _ _ _ _ _ _ hS1.out).mono ?_
  rintro e w2 ⟨rfl, hS2⟩
  have hS2 := Lib.hid hS2
  go_wp2_with fail
  refine (H2.out _ _ _ _ _ _ hS2.out).mono ?_
  rintro e w3 ⟨rfl, hS3⟩
  have hm3 := (Mod.refl [] w3).alloc (.cells #[.int .u64 0, .int .i64 0, .int .i64 0, .int .i64 0, .int .i64 0] 39 (0, 0))
  have hS3 := Lib.hid (hS3.then hm3)
  clear hm3
  go_wp2_with fail
  refine (H3.out _ _ _ _ _ _ hS3.out).mono ?_
  rintro e w4 ⟨rfl, hS4⟩
  have hm4 := hS4.mod.alloc (.cells #[.int .u64 0, .int .i64 0, .int .i64 0, .int .i64 0, .int .i64 0] 39 (0, 0))
  have hm4 := Lib.hid hm4
  go_wp2_with fail
  go_ret
  exact ⟨rfl, hm4.out⟩
def firstT (x : Int) : Int := if x % 3 = 0 then 4294967295 - x / 3 % 4 else 1 + x % 5
theorem firstT_in (x : Int) : 1 ≤ firstT x ∧ firstT x ≤ 4294967295 := by
  unfold firstT
  split <;> omega
theorem firstT_any (x : Int) (h0 : 0 ≤ x) (h1 : x ≤ 255) (w : World) : Calls Try.prog 9 #[.int .u8 x] w fun e w' => e = .returned (.int .i64 (firstT x)) ∧ Mod [] w w' := by
  unfold firstT
  go_enter Try.func9, Try.ntmps9
  by_cases h : x % 3 = 0
  · rw [if_pos h]
    go_wp2_with fail
    go_ret
    exact ⟨rfl, Mod.refl _ _⟩
  · rw [if_neg h]
    go_wp2_with fail
    go_ret
    exact ⟨rfl, Mod.refl _ _⟩
end Go.Proofs.Ytcdmapllligjhaa
