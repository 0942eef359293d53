/- Borrows: the laws' functions: awake, step. -/
import Derived.Test.YtappkiiihnaegaaBAll
import Derived.Test.YtappkiiihnaegaaBDefE
namespace Go.Proofs.Ytappkiiihnaegaa
open Go Go.RowKit Go.Stg

/-- What the laws' ledgers keep to: n steps at most. -/
structure BInv (n : Nat) (L : List Bor) : Prop where
  inv : LInv n L
  len : L.length ≤ n
theorem BInv.nil : BInv 0 [] := ⟨LInv.nil _, Nat.le_refl _⟩
theorem BInv.up {n m : Nat} {L : List Bor} (h : BInv n L) (hn : n ≤ m) : BInv m L := ⟨h.inv.up (by omega), Nat.le_trans h.len hn⟩
theorem BInv.lend {n : Nat} {L : List Bor} (h : BInv n L) (o k m : Int) : BInv (n + 1) (lendL L o k m) := ⟨by have := lend_inv h.inv (by omega) o k m; simpa using this, Nat.le_trans (lend_len L o k m) (Nat.succ_le_succ h.len)⟩
theorem BInv.rel {n : Nat} {L : List Bor} (h : BInv n L) (k : Int × Int) : BInv n (relL L k) := ⟨rel_inv h.inv k, Nat.le_trans (rel_len h.inv.srt.nodup k) h.len⟩
theorem BInv.cut {n : Nat} {L : List Bor} (h : BInv n L) (p : Bor → Bool) : BInv n (cut L p) := ⟨cut_inv h.inv p, Nat.le_trans (cut_len L p) h.len⟩
theorem new_sc {F : List Nat} {W w : World} {cs : List Comp} (h : Scene F W cs w) : Calls Try.prog 10 #[] w fun e w' => e = .returned (.pointer (some ⟨w.heap.size, 0, none⟩)) ∧ Scene F W (ledC w.heap.size [] :: cs) w' :=
  (new_ok w).mono fun e w' ⟨he, hm, hc⟩ => ⟨he, h.add hm hc (by simp)⟩
theorem sc_ledv {F : List Nat} {W w : World} {cs : List Comp} {b : Nat} {L : List Bor} (i : Nat) (h : Scene F W cs w) (hi : cs[i]? = some (ledC b L)) : LedV w (some ⟨b, 0, none⟩) L := let ⟨_, h1, _⟩ := h.part i hi; LedV.of h1
theorem sc_rled {F : List Nat} {W w : World} {cs : List Comp} {b : Nat} {L : List Bor} (i : Nat) (h : Scene F W cs w) (hi : cs[i]? = some (rledC b L)) : ∃ f, RLedAt w b L f := let ⟨f, h1, _⟩ := h.part i hi; ⟨f, h1⟩
theorem sc_holds {F : List Nat} {W w : World} {cs : List Comp} {b n : Nat} {L : List Bor} (i : Nat) (h : Scene F W cs w) (hI : BInv n L) (_hn : n ≤ 1000) (hi : cs[i]? = some (ledC b L)) (o k : Int) : Calls Try.prog 11 #[.pointer (some ⟨b, 0, none⟩), .int .i64 o, .int .i64 k] w fun e w' => e = .returned (foundV (getB L (o, k))) ∧ Mod [] w w' :=
  holds_ok (sc_ledv i h hi) hI.inv.srt o k
section
variable {F : List Nat} {W w : World} {cs : List Comp} {b n : Nat} {L : List Bor} (i : Nat) (h : Scene F W cs w) (hI : BInv n L) (hn : n ≤ 1000)
section
variable (hi : cs[i]? = some (ledC b L))
include h hi hI hn
theorem sc_lend (o k m : Int) : Calls Try.prog 12 #[.pointer (some ⟨b, 0, none⟩), .int .i64 o, .int .i64 k, .int .i64 m] w fun e w' => e = .returned (.int .i64 (lendE L o m)) ∧ Scene F W (cs.set i (ledC b (lendL L o k m))) w' :=
  h.call i hi fun _ hf => lend_ok hf hI.inv (by omega) (by omega) (by have := hI.len; omega) o k m
theorem sc_release (o k : Int) : Calls Try.prog 14 #[.pointer (some ⟨b, 0, none⟩), .int .i64 o, .int .i64 k] w fun e w' => e = .returned (.int .i64 (relE L (o, k))) ∧ Scene F W (cs.set i (ledC b (relL L (o, k)))) w' :=
  h.call i hi fun _ hf => release_ok hf hI.inv (by omega) (by have := hI.len; omega) o k
theorem sc_endH (o : Int) : Calls Try.prog 25 #[.pointer (some ⟨b, 0, none⟩), .int .i64 o] w fun e w' => e = .returned (.int .i64 ((heldH L o).length : Nat)) ∧ Scene F W (cs.set i (ledC b (cut L fun x => decide (x.1.2 = o)))) w' :=
  h.call i hi fun _ hf => endH_ok hf hI.inv.srt (by have := hI.len; omega) o
theorem sc_endO (o : Int) : Calls Try.prog 27 #[.pointer (some ⟨b, 0, none⟩), .int .i64 o] w fun e w' => ∃ v, e = .returned v ∧ Scene F W (rowC v (ofO L o).length 25 4 (flat bcell (ofO L o)) :: cs.set i (ledC b (cut L fun x => decide (x.1.1 = o)))) w' :=
  h.callNew i hi fun _ hf => endO_ok hf hI.inv.srt (by have := hI.len; omega) o
theorem sc_access (o k : Int) (owner : Bool) (a : Int) : Calls Try.prog 20 #[.pointer (some ⟨b, 0, none⟩), .int .i64 o, .int .i64 k, .bool owner, .int .i64 a] w fun e w' => e = .returned (.int .i64 (accE L o k owner a)) ∧ Mod [] w w' :=
  access_ok (sc_ledv i h hi) hI.inv (by have := hI.len; omega) o k owner a
theorem sc_of (o : Int) : Calls Try.prog 17 #[.pointer (some ⟨b, 0, none⟩), .int .i64 o] w fun e w' => ∃ v, e = .returned v ∧ w'.ownsRow w.heap.size 25 4 v (ofO L o).length (flat bcell (ofO L o)) ∧ Mod [] w w' :=
  of_ok (sc_ledv i h hi) hI.inv.srt (by have := hI.len; omega) o
theorem sc_held (o : Int) : Calls Try.prog 13 #[.pointer (some ⟨b, 0, none⟩), .int .i64 o] w fun e w' => e = .returned (.int .i64 ((heldH L o).length : Nat)) ∧ Mod [] w w' :=
  held_ok (sc_ledv i h hi) hI.inv.srt (by have := hI.len; omega) o
theorem sc_listed : Calls Try.prog 19 #[.pointer (some ⟨b, 0, none⟩)] w fun e w' => ∃ v, e = .returned v ∧ w'.ownsRow w.heap.size 25 4 v L.length (flat bcell L) ∧ Mod [] w w' :=
  listed_ok (sc_ledv i h hi) hI.inv.srt (by have := hI.len; omega)
end
section
variable (hi : cs[i]? = some (rledC b L))
include h hi hI hn
theorem sc_rlend (o k m : Int) : Calls Try.prog 23 #[.pointer (some ⟨b, 0, none⟩), .int .i64 o, .int .i64 k, .int .i64 m] w fun e w' => e = .returned (.int .i64 (lendE L o m)) ∧ Scene F W (cs.set i (rledC b (lendL L o k m))) w' :=
  h.call i hi fun _ hf => rlend_ok hf hI.inv (by omega) (by omega) (by have := hI.len; omega) o k m
theorem sc_rrelease (o k : Int) : Calls Try.prog 24 #[.pointer (some ⟨b, 0, none⟩), .int .i64 o, .int .i64 k] w fun e w' => e = .returned (.int .i64 (relE L (o, k))) ∧ Scene F W (cs.set i (rledC b (relL L (o, k)))) w' :=
  h.call i hi fun _ hf => rrelease_ok hf hI.inv (by omega) (by have := hI.len; omega) o k
theorem sc_rendH (o : Int) : Calls Try.prog 26 #[.pointer (some ⟨b, 0, none⟩), .int .i64 o] w fun e w' => e = .returned (.int .i64 ((heldH L o).length : Nat)) ∧ Scene F W (cs.set i (rledC b (cut L fun x => decide (x.1.2 = o)))) w' :=
  h.call i hi fun _ hf => rendH_ok hf (by have := hI.len; omega) o
theorem sc_rendO (o : Int) : Calls Try.prog 28 #[.pointer (some ⟨b, 0, none⟩), .int .i64 o] w fun e w' => ∃ v, e = .returned v ∧ Scene F W (rowC v (ofO L o).length 25 4 (flat bcell (ofO L o)) :: cs.set i (rledC b (cut L fun x => decide (x.1.1 = o)))) w' :=
  h.callNew i hi fun _ hf => rendO_ok hf hI.inv.srt (by have := hI.len; omega) o
theorem sc_raccess (o k : Int) (owner : Bool) (a : Int) : Calls Try.prog 22 #[.pointer (some ⟨b, 0, none⟩), .int .i64 o, .int .i64 k, .bool owner, .int .i64 a] w fun e w' => e = .returned (.int .i64 (accE L o k owner a)) ∧ Mod [] w w' :=
  let ⟨_, h1⟩ := sc_rled i h hi; raccess_ok h1 hI.inv (by have := hI.len; omega) o k owner a
theorem sc_rof (o : Int) : Calls Try.prog 36 #[.pointer (some ⟨b, 0, none⟩), .int .i64 o] w fun e w' => ∃ v, e = .returned v ∧ w'.ownsRow w.heap.size 25 4 v (ofO L o).length (flat bcell (ofO L o)) ∧ Mod [] w w' :=
  let ⟨_, h1⟩ := sc_rled i h hi; rof_c h1 (by have := hI.len; omega) o
theorem sc_rheld (o : Int) : Calls Try.prog 37 #[.pointer (some ⟨b, 0, none⟩), .int .i64 o] w fun e w' => e = .returned (.int .i64 ((heldH L o).length : Nat)) ∧ Mod [] w w' :=
  let ⟨_, h1⟩ := sc_rled i h hi; rheld_c h1 (by have := hI.len; omega) o
theorem sc_rholds (o k : Int) : Calls Try.prog 35 #[.pointer (some ⟨b, 0, none⟩), .int .i64 o, .int .i64 k] w fun e w' => e = .returned (foundV (getB L (o, k))) ∧ Mod [] w w' :=
  let ⟨_, h1⟩ := sc_rled i h hi; rholds_c h1 (by have := hI.len; omega) o k
end
end
/-- The definition's ledger, just laid. -/
theorem rled_new {w : World} {q : Nat} (h : w.heap[q]? = some (.cells #[.slice none 0 0] 38 (0, 0))) : (rledC q []).on w [q] := by
  have := rled_of (L := []) h (World.ownsRow_nil _ _ _ _) (by simp [Value.ownBlock])
  show RLedAt w q [] [q]
  simpa [Value.ownBlock] using this
theorem rled_alloc {F : List Nat} {W w : World} {cs : List Comp} (h : Scene F W cs w) : Scene F W (rledC w.heap.size [] :: cs) (w.alloc (.cells #[.slice none 0 0] 38)) :=
  h.add (c := rledC w.heap.size []) ((Mod.refl [] w).alloc _) (rled_new (at_alloc w _)) (by simp)
theorem ex1 : lendE [] 5 1 = 0 := by decide
theorem ex2 : lendL [] 5 2 1 = [((5, 2), (1, 1))] := by decide
theorem ex3 : lendE [((5, 2), (1, 1))] 5 1 = 0 := by decide
theorem ex4 : lendL [((5, 2), (1, 1))] 5 2 1 = [((5, 2), (1, 2))] := by decide
theorem ex5 : relE [((5, 2), (1, 2))] (5, 2) = 0 := by decide
theorem ex6 : relL [((5, 2), (1, 2))] (5, 2) = [((5, 2), (1, 1))] := by decide
theorem ex7 : accE [((5, 2), (1, 1))] 5 2 false 1 = 0 := by decide
theorem ex8 : accE [((5, 2), (1, 1))] 5 1 true 1 = 0 := by decide
theorem ex9 : accE [((5, 2), (1, 1))] 5 1 true 2 = 14 := by decide
set_option maxHeartbeats 1000000 in
theorem awake_ok (w : World) : Calls Try.prog 15 #[] w fun e w' => e = .returned (.bool true) ∧ Mod [] w w' := by
  go_enter Try.func15, Try.ntmps15
  go_wp2_with fail
  refine (new_sc (Scene.empty w)).mono ?_
  rintro e w1 ⟨rfl, hS1⟩
  have hS1H := Lib.hid hS1
  generalize w.heap.size = b at *
  clear hS1
  go_wp2_with fail
  refine (sc_lend 0 hS1H.out BInv.nil (by omega) rfl 5 2 1).mono ?_
  rw [ex1, ex2]
  rintro e w2 ⟨rfl, hS2⟩
  have hS2H := Lib.hid hS2
  clear hS2 hS1H
  go_wp2_with fail
  have i2 : BInv 1 [((5, 2), (1, 1))] := by have := BInv.nil.lend 5 2 1; rwa [ex2] at this
  have i3 : BInv 2 [((5, 2), (1, 2))] := by have := i2.lend 5 2 1; rwa [ex4] at this
  have i2H := Lib.hid i2
  have i3H := Lib.hid i3
  clear i2 i3
  refine (sc_lend 0 hS2H.out i2H.out (by omega) rfl 5 2 1).mono ?_
  rw [ex3, ex4]
  rintro e w3 ⟨rfl, hS3⟩
  have hS3H := Lib.hid hS3
  clear hS3 hS2H
  go_wp2_with fail
  refine (sc_release 0 hS3H.out i3H.out (by omega) rfl 5 2).mono ?_
  rw [ex5, ex6]
  rintro e w4 ⟨rfl, hS4⟩
  have hS4H := Lib.hid hS4
  clear hS4 hS3H
  go_wp2_with fail
  refine (sc_access 0 hS4H.out i2H.out (by omega) rfl 5 2 false 1).mono ?_
  rw [ex7]
  rintro e w5 ⟨rfl, hm5⟩
  have hS5H := Lib.hid (hS4H.out.then hm5)
  clear hm5 hS4H
  go_wp2_with fail
  refine (sc_access 0 hS5H.out i2H.out (by omega) rfl 5 1 true 1).mono ?_
  rw [ex8]
  rintro e w6 ⟨rfl, hm6⟩
  have hS6H := Lib.hid (hS5H.out.then hm6)
  clear hm6 hS5H
  go_wp2_with fail
  refine (sc_access 0 hS6H.out i2H.out (by omega) rfl 5 1 true 2).mono ?_
  rw [ex9]
  rintro e w7 ⟨rfl, hm7⟩
  have hmm := Lib.hid (hS6H.out.mod.nil_then hm7)
  clear hm7 hS6H
  go_wp2_with fail
  go_ret
  exact ⟨rfl, hmm.out⟩
/-! ### one step -/
def stepL (xa xb xc xd : Int) (L : List Bor) : List Bor :=
  if xa % 12 = 0 then cut L (fun x => decide (x.1.1 = xb % 4)) else if xa % 12 = 1 then cut L (fun x => decide (x.1.2 = xc % 4)) else if xa % 12 ≤ 5 then relL L (xb % 4, xc % 4)
  else lendL L (xb % 4) (xc % 4) (if xd % 4 = 0 then xd / 4 % 4 else 1)
theorem BInv.step {n : Nat} {L : List Bor} (h : BInv n L) (xa xb xc xd : Int) : BInv (n + 1) (stepL xa xb xc xd L) := by
  unfold stepL
  split
  · exact (h.cut _).up (by omega)
  · split
    · exact (h.cut _).up (by omega)
    · split
      · exact (h.rel _).up (by omega)
      · exact h.lend _ _ _
set_option maxHeartbeats 2000000 in
theorem step_ok {F : List Nat} {W w : World} {cs : List Comp} {b rb n : Nat} {L : List Bor} (h : Scene F W (ledC b L :: rledC rb L :: cs) w) (hI : BInv n L) (hn : n ≤ 1000) (xa xb xc xd : Int) (a0 : 0 ≤ xa ∧ xa ≤ 255) (b0 : 0 ≤ xb ∧ xb ≤ 255) (c0 : 0 ≤ xc ∧ xc ≤ 255) (d0 : 0 ≤ xd ∧ xd ≤ 255) :
    Calls Try.prog 16 #[.pointer (some ⟨b, 0, none⟩), .pointer (some ⟨rb, 0, none⟩), .agg #[.int .u8 xa, .int .u8 xb, .int .u8 xc, .int .u8 xd]] w fun e w' => e = .returned (.bool true) ∧ Scene F W (ledC b (stepL xa xb xc xd L) :: rledC rb (stepL xa xb xc xd L) :: cs) w' := by
  have hS := h.alloc (.cells #[.int .u8 xa, .int .u8 xb, .int .u8 xc, .int .u8 xd] 40)
  have hSH := Lib.hid hS
  have hIH := Lib.hid hI
  have hbx := hS.block 0 rfl
  have k1 := GW.cells (S := []) hbx (by simp)
  obtain ⟨L', hL'⟩ : ∃ L', stepL xa xb xc xd L = L' := ⟨_, rfl⟩
  rw [hL']
  unfold stepL at hL'
  have hL'H := Lib.hid hL'
  clear h hS hI hL'
  go_enter Try.func16, Try.ntmps16
  go_wp2_with fail
  generalize w.heap.size = y at *
  generalize w.alloc (.cells #[.int .u8 xa, .int .u8 xb, .int .u8 xc, .int .u8 xd] 40) = W0 at *
  refine wp_region_pure (by kernel_rfl) (by kernel_rfl) ?_
  refine stage_quiet 10 (by kernel_rfl) ?_
  simp only [List.take_succ_cons, List.take_zero, List.drop_succ_cons, List.drop_zero]
  repeat (go_big_quiet_step (fail))
  refine wpQuiet_nil ?_
  refine stage_nil fun w1 hm1 => ?_
  have hS1 := hSH.out.then hm1
  have hbx1 := cells_of (hS1.block 0 rfl)
  have hS1H := Lib.hid hS1
  clear k1 hm1 hSH hS1 hbx
  obtain ⟨q, hq⟩ : ∃ q, xa % 12 = q := ⟨_, rfl⟩
  have hq0 : 0 ≤ q ∧ q ≤ 11 := by omega
  have ho : 0 ≤ xb % 4 ∧ xb % 4 ≤ 3 := by omega
  have hk : 0 ≤ xc % 4 ∧ xc % 4 ≤ 3 := by omega
  rw [hq] at hL'H
  generalize xb % 4 = o at *
  generalize xc % 4 = k at *
  by_cases h0 : q = 0
  · subst h0
    obtain rfl := hL'H.out
    have z : (xa % 12 == 0) = true := by simpa using hq
    clear hL'H
    go_wp2_with fail
    refine (sc_endO 1 hS1H.out hIH.out hn rfl o).mono ?_
    rintro e w2 ⟨v1, rfl, hS2⟩
    obtain ⟨ua, ul, uc, rfl⟩ := row_slice (hS2.row 0 rfl)
    have hS2H := Lib.hid hS2
    clear hS2 hbx1
    go_wp2_with fail
    refine (sc_rendO 3 hS2H.out hIH.out hn rfl o).mono ?_
    rintro e w3 ⟨v2, rfl, hS3⟩
    obtain ⟨va, vl, vc, rfl⟩ := row_slice (hS3.row 0 rfl)
    have hS3H := Lib.hid hS3
    clear hS3 hS2H
    go_wp2_with fail
    have hlen : (ofO L o).length ≤ 1000000 := Nat.le_trans (List.length_filter_le _ _) (Nat.le_trans hIH.out.len (by omega))
    refine (same_ok (hS3H.out.row 1 rfl) (hS3H.out.row 0 rfl) hlen).mono ?_
    rintro e w4 ⟨rfl, hm4⟩
    have hS4H := Lib.hid (hS3H.out.then hm4)
    clear hm4 hS3H hlen
    go_wp2_with fail
    go_ret
    exact ⟨rfl, ((hS4H.out.erase 0).erase 0).erase 0⟩
  · by_cases h1 : q = 1
    · subst h1
      obtain rfl := hL'H.out
      have z : (xa % 12 == 0) = false := by simp; omega
      have z1 : (xa % 12 == 1) = true := by simpa using hq
      clear hL'H
      go_wp2_with fail
      refine (sc_endH 1 hS1H.out hIH.out hn rfl k).mono ?_
      rintro e w2 ⟨rfl, hS2⟩
      have hS2H := Lib.hid hS2
      clear hS2 hbx1
      go_wp2_with fail
      refine (sc_rendH 2 hS2H.out hIH.out hn rfl k).mono ?_
      rintro e w3 ⟨rfl, hS3⟩
      have hS3H := Lib.hid hS3
      have z2 : (((heldH L k).length : Int) == ((heldH L k).length : Int)) = true := by simp
      clear hS3 hS2H
      go_wp2_with fail
      go_ret
      exact ⟨rfl, hS3H.out.erase 0⟩
    · by_cases h5 : q ≤ 5
      · have hL2 := hL'H.out
        rw [if_neg h0, if_neg h1, if_pos h5] at hL2
        subst hL2
        have z : (xa % 12 == 0) = false := by simp; omega
        have z1 : (xa % 12 == 1) = false := by simp; omega
        have hq2 : q = 2 ∨ q = 3 ∨ q = 4 ∨ q = 5 := by omega
        clear hL'H h0 h1 h5 hq0
        rcases hq2 with rfl | rfl | rfl | rfl
        all_goals
          have y2 : (xa % 12 == 2) = decide (xa % 12 = 2) := by simp [BEq.beq]
          have y3 : (xa % 12 == 3) = decide (xa % 12 = 3) := by simp [BEq.beq]
          have y4 : (xa % 12 == 4) = decide (xa % 12 = 4) := by simp [BEq.beq]
          have y5 : (xa % 12 == 5) = decide (xa % 12 = 5) := by simp [BEq.beq]
          rw [hq] at y2 y3 y4 y5
          simp at y2 y3 y4 y5
          go_wp2_with fail
          refine (sc_release 1 hS1H.out hIH.out hn rfl o k).mono ?_
          rintro e w2 ⟨rfl, hS2⟩
          have hS2H := Lib.hid hS2
          clear hS2 hbx1
          go_wp2_with fail
          refine (sc_rrelease 2 hS2H.out hIH.out hn rfl o k).mono ?_
          rintro e w3 ⟨rfl, hS3⟩
          have hS3H := Lib.hid hS3
          have z2 : (relE L (o, k) == relE L (o, k)) = true := by simp
          clear hS3 hS2H
          go_wp2_with fail
          go_ret
          exact ⟨rfl, hS3H.out.erase 0⟩
      · have hL2 := hL'H.out
        rw [if_neg h0, if_neg h1, if_neg h5] at hL2
        have z0 : (xa % 12 == 0) = false := by simp; omega
        have z1 : (xa % 12 == 1) = false := by simp; omega
        have z2 : (xa % 12 == 2) = false := by simp; omega
        have z3 : (xa % 12 == 3) = false := by simp; omega
        have z4 : (xa % 12 == 4) = false := by simp; omega
        have z5 : (xa % 12 == 5) = false := by simp; omega
        clear hL'H h0 h1 h5 hq0 hq
        by_cases hd : xd % 4 = 0
        · rw [if_pos hd] at hL2
          subst hL2
          have y : (xd % 4 == 0) = true := by simpa using hd
          clear hd
          go_wp2_with fail
          refine (sc_lend 1 hS1H.out hIH.out hn rfl o k (xd / 4 % 4)).mono ?_
          rintro e w2 ⟨rfl, hS2⟩
          have hS2H := Lib.hid hS2
          clear hS2 hbx1
          go_wp2_with fail
          refine (sc_rlend 2 hS2H.out hIH.out hn rfl o k (xd / 4 % 4)).mono ?_
          rintro e w3 ⟨rfl, hS3⟩
          have hS3H := Lib.hid hS3
          have yz : (lendE L o (xd / 4 % 4) == lendE L o (xd / 4 % 4)) = true := by simp
          clear hS3 hS2H
          go_wp2_with fail
          go_ret
          exact ⟨rfl, hS3H.out.erase 0⟩
        · rw [if_neg hd] at hL2
          subst hL2
          have y : (xd % 4 == 0) = false := by simpa using hd
          clear hd
          go_wp2_with fail
          refine (sc_lend 1 hS1H.out hIH.out hn rfl o k (1)).mono ?_
          rintro e w2 ⟨rfl, hS2⟩
          have hS2H := Lib.hid hS2
          clear hS2 hbx1
          go_wp2_with fail
          refine (sc_rlend 2 hS2H.out hIH.out hn rfl o k (1)).mono ?_
          rintro e w3 ⟨rfl, hS3⟩
          have hS3H := Lib.hid hS3
          have yz : (lendE L o (1) == lendE L o (1)) = true := by simp
          clear hS3 hS2H
          go_wp2_with fail
          go_ret
          exact ⟨rfl, hS3H.out.erase 0⟩
end Go.Proofs.Ytappkiiihnaegaa
