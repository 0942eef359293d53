/- BorrowExcludes: who may write and who may read, and the walk of the law. -/
import Derived.Test.YtappkiiihnaegaaBLaw
import Derived.Test.YtappkiiihnaegaaBSteps
namespace Go.Proofs.Ytappkiiihnaegaa
open Go Go.RowKit Go.Stg

def acc (a : Int) (L : List Bor) (o : Int) (p : Nat) : Bool := decide (accE L o p ((p : Int) == 0) a = 0)
def cnt (f : Nat → Bool) : Nat → Nat
  | 0 => 0
  | j + 1 => cnt f j + (if f j then 1 else 0)
theorem cnt_le (f : Nat → Bool) : ∀ j, cnt f j ≤ j
  | 0 => Nat.le_refl _
  | j + 1 => by have := cnt_le f j; unfold cnt; split <;> omega
/-- All holders are plugins 1 to 3. -/
def Hs (L : List Bor) : Prop := ∀ b ∈ L, 1 ≤ b.1.2 ∧ b.1.2 ≤ 3
theorem Hs.nil : Hs [] := by intro b hb; cases hb
theorem Hs.sub {L M : List Bor} (h : Hs L) (hs : ∀ b ∈ M, b ∈ L) : Hs M := fun b hb => h b (hs b hb)
theorem Hs.put {L : List Bor} (h : Hs L) {b : Bor} (hb : 1 ≤ b.1.2 ∧ b.1.2 ≤ 3) : Hs (putB L b) := fun x hx => by
  rcases put_mem.1 hx with rfl | ⟨h1, _⟩
  · exact hb
  · exact h x h1
theorem Hs.step {L : List Bor} (h : Hs L) (xa xb xc xd : Int) (hc : 1 ≤ xc % 4 ∧ xc % 4 ≤ 3) : Hs (stepL xa xb xc xd L) := by
  unfold stepL
  split
  · exact h.sub fun b hb => (List.mem_filter.1 hb).1
  · split
    · exact h.sub fun b hb => (List.mem_filter.1 hb).1
    · split
      · unfold relL
        cases getB L (xb % 4, xc % 4) with
        | none => exact h
        | some b =>
          simp only
          split
          · exact h.sub fun b hb => (without_mem.1 hb).1
          · exact h.put hc
      · unfold lendL
        generalize (if xd % 4 = 0 then xd / 4 % 4 else 1) = md
        split
        · exact h.put hc
        · exact h
theorem acc_wr {N : Int} {L : List Bor} (_h : LInv N L) (o : Int) (p : Nat) (hw : acc 2 L o p = true) : acc 1 L o p = true := by
  unfold acc accE at *
  rw [decide_eq_true_eq] at *
  cases hp : ((p : Int) == 0) with
  | true => simp only [hp] at hw ⊢; simp at hw ⊢; omega
  | false =>
    simp only [hp] at hw ⊢
    simp at hw ⊢
    by_cases hg : getB L (o, (p : Int)) = none
    · simp [hg] at hw
    · exact hg
theorem acc_own {L : List Bor} (o a : Int) (ha : a = 1 ∨ a = 2) : acc a L o 0 = decide (¬ (modeO L o = 2 ∨ (modeO L o = 1 ∧ a = 2))) := by
  unfold acc accE
  rcases ha with rfl | rfl <;> simp <;> congr 1 <;> simp
theorem acc_other {L : List Bor} (o a : Int) (ha : a = 1 ∨ a = 2) (p : Nat) (h0 : p ≠ 0) : acc a L o p = ((getB L (o, (p : Int))).isSome && decide (¬ ((gotB L (o, (p : Int))).2.1 = 1 ∧ a = 2))) := by
  have hp : ((p : Int) == 0) = false := by simp; omega
  unfold acc accE
  rw [hp]
  cases (getB L (o, (p : Int))).isSome <;> rcases ha with rfl | rfl <;> simp
theorem excl_law {N : Int} {L : List Bor} (h : LInv N L) (hH : Hs L) (o : Int) : (cnt (acc 2 L o) 4 = 1 ∧ cnt (acc 1 L o) 4 = 1) ∨ (cnt (acc 2 L o) 4 = 0 ∧ 1 ≤ cnt (acc 1 L o) 4) := by
  have got : ∀ (p : Nat) b, getB L (o, (p : Int)) = some b → gotB L (o, (p : Int)) = b ∧ b ∈ L ∧ b.1 = (o, (p : Int)) := fun p b hb => ⟨by unfold gotB; rw [hb]; rfl, getB_some hb⟩
  have R0 := acc_own (L := L) o 1 (.inl rfl)
  have W0 := acc_own (L := L) o 2 (.inr rfl)
  have R := fun p => acc_other (L := L) o 1 (.inl rfl) p
  have W := fun p => acc_other (L := L) o 2 (.inr rfl) p
  simp only [cnt, Nat.zero_add]
  rw [R0, W0, R 1 (by decide), R 2 (by decide), R 3 (by decide), W 1 (by decide), W 2 (by decide), W 3 (by decide)]
  rcases modeO_range h o with hm | hm | hm
  · left
    have hno : ∀ p : Nat, getB L (o, (p : Int)) = none := fun p => by
      cases hg : getB L (o, (p : Int)) with
      | none => rfl
      | some b =>
        obtain ⟨_, hb, hk⟩ := got p b hg
        have := (modeO_zero h o).1 hm
        have hb' : b ∈ ofO L o := ofO_mem.2 ⟨hb, by rw [hk]⟩
        rw [this] at hb'; cases hb'
    have g1 : getB L (o, 1) = none := hno 1
    have g2 : getB L (o, 2) = none := hno 2
    have g3 : getB L (o, 3) = none := hno 3
    simp [hm, g1, g2, g3]
  · right
    have hall : ∀ p : Nat, ((getB L (o, (p : Int))).isSome && decide (¬ ((gotB L (o, (p : Int))).2.1 = 1 ∧ (2 : Int) = 2))) = false := fun p => by
      cases hg : getB L (o, (p : Int)) with
      | none => rfl
      | some b =>
        obtain ⟨e, hb, hk⟩ := got p b hg
        have := modeO_of h hb (o := o) (by rw [hk])
        rw [e]
        simp; omega
    rw [hall, hall, hall]
    simp [hm]
    omega
  · left
    obtain ⟨b, hb, hk⟩ : ∃ b, b ∈ L ∧ b.1.1 = o := by
      cases hf : ofO L o with
      | nil => rw [(modeO_zero h o).2 hf] at hm; cases hm
      | cons a l =>
        have := ofO_mem.1 (show a ∈ ofO L o by rw [hf]; simp)
        exact ⟨a, this⟩
    have hb2 : b.2.1 = 2 := by rw [← modeO_of h hb hk]; exact hm
    have hex := (h.excl b hb hb2).2
    have h13 := hH b hb
    have yes : getB L (o, b.1.2) = some b := by
      have := getB_of h.srt.nodup hb
      rwa [show b.1 = (o, b.1.2) from by rw [← hk]] at this
    have no : ∀ p : Nat, (p : Int) ≠ b.1.2 → getB L (o, (p : Int)) = none := fun p hp => by
      cases hg : getB L (o, (p : Int)) with
      | none => rfl
      | some a =>
        obtain ⟨_, ha, hka⟩ := got p a hg
        have := hex a ha (by rw [hka, hk])
        subst this
        exact absurd (by rw [hka]) hp
    have gb : gotB L (o, b.1.2) = b := by unfold gotB; rw [yes]; rfl
    have hcase : b.1.2 = 1 ∨ b.1.2 = 2 ∨ b.1.2 = 3 := by omega
    have n1 := no 1
    have n2 := no 2
    have n3 := no 3
    rcases hcase with e | e | e <;> rw [e] at yes gb n1 n2 n3 <;> simp at n1 n2 n3 <;> simp [hm, yes, gb, n1, n2, n3, hb2]

set_option maxHeartbeats 8000000 in
set_option maxRecDepth 20000 in
theorem excl_walk (sv : Value) (xs : List X4) (w : World) (hs : Steps4At w sv xs) :
    Calls Try.prog 6 #[sv] w fun e w' => e = .returned (.bool true) ∧ Mod [] w w' := by
  have hln := fun ty w => hs.len ty w
  have hlm := hs.small
  have hsH := Lib.hid hs
  clear hs
  go_enter Try.func6, Try.ntmps6
  go_wp2_with fail
  refine (awake_ok _).mono ?_
  rintro e w0 ⟨rfl, hm0⟩
  have hm0H := Lib.hid hm0
  clear hm0
  go_wp2_with fail
  refine (new_sc ((Scene.empty w).then hm0H.out)).mono ?_
  rintro e w1 ⟨rfl, hS1⟩
  have hS1H := Lib.hid hS1
  clear hS1 hm0H
  generalize w0.heap.size = b at *
  go_wp2_with fail
  go_loopw [4] (fun i wr => ∃ (k : Nat) (L : List Bor), k ≤ xs.length ∧ k ≤ 40 ∧ i = .int .i64 k ∧ Scene [] w [ledC b L] wr ∧ BInv k L ∧ Hs L) (fun i _ => 40 - (intOf i).toNat)
  case atStart => exact ⟨0, [], by omega, by omega, rfl, hS1H.out, BInv.nil, Hs.nil⟩
  case round =>
    obtain ⟨k, L, hk1, hk2, rfl, hSx, hI, hH⟩ := hrel
    have hSH := Lib.hid hSx
    have hIH := Lib.hid hI
    have hHH := Lib.hid hH
    clear hS1H hSx hI hH
    by_cases hgo : k < xs.length ∧ k < 40
    · obtain ⟨hlt, hlt2⟩ := hgo
      have hk40 : decide ((k : Int) < 40) = true := by rw [decide_eq_true_eq]; omega
      rcases hsH.out with ⟨_, rfl⟩ | ⟨sb, so, cap, rfl, h2, h3, h4⟩
      · simp at hlt
      · obtain ⟨⟨a0, b0, e0, d0⟩, c0, c1, c2, c3⟩ := h4 k hlt
        clear h4
        have c0 := (cell_mod hSH.out.mod h2 (by simp)).trans c0
        have c1 := (cell_mod hSH.out.mod h2 (by simp)).trans c1
        have c2 := (cell_mod hSH.out.mod h2 (by simp)).trans c2
        have c3 := (cell_mod hSH.out.mod h2 (by simp)).trans c3
        generalize hx0 : xs[k] = x0 at *
        clear hx0
        rcases x0 with ⟨xa, xb, xc, xd⟩
        simp only at a0 b0 e0 d0 c0 c1 c2 c3
        go_wp2_with fail
        have hB := hSH.out.alloc (.cells #[.int .u8 xa, .int .u8 xb, .int .u8 (1 + xc % 3), .int .u8 xd] 40)
        have hBH := Lib.hid hB
        generalize wr.heap.size = bx at *
        generalize wr.alloc (.cells #[.int .u8 xa, .int .u8 xb, .int .u8 (1 + xc % 3), .int .u8 xd] 40) = w2 at *
        clear hB hSH c0 c1 c2 c3
        refine (sc_listed 1 hBH.out hIH.out (by omega) rfl).mono ?_
        rintro e w3 ⟨v, rfl, hr, hm3⟩
        obtain ⟨oa, ol, oc, rfl⟩ := row_slice hr
        have hS3 := hBH.out.then hm3
        have kx := cells_of (at_alloc_old (o := .cells #[.slice oa ol oc] 38) (hS3.block 0 rfl))
        have hS4 := Lib.hid ((hBH.out.add (c := rledC w3.heap.size L) (hm3.alloc (.cells #[.slice oa ol oc] 38)) (rled_of (at_alloc w3 (.cells #[.slice oa ol oc] 38)) (row_base (row_mod hr ((Mod.refl [] w3).alloc _) (by simp)) (Nat.zero_le _)) (fun g hg e => by have := (hr.lt g hg).2; omega)) (fun x hx => by
          simp only [List.append_nil, List.singleton_append, List.mem_cons, Option.mem_toList] at hx
          rcases hx with rfl | hx
          · exact hm3.size
          · exact (hr.lt x hx).1)).erase 1).swap
        clear hr hm3 hS3 hBH
        go_wp2_with fail
        generalize w3.heap.size = q at *
        generalize w3.alloc (.cells #[.slice oa ol oc] 38) = w4 at *
        refine (step_ok hS4.out hIH.out (by omega) xa xb (1 + xc % 3) xd a0 b0 (by omega) d0).mono ?_
        rintro e w5 ⟨rfl, hS5⟩
        have hS5H := Lib.hid (hS5.erase 1)
        have hI2 := Lib.hid (hIH.out.step xa xb (1 + xc % 3) xd)
        have hH2 := Lib.hid (hHH.out.step xa xb (1 + xc % 3) xd (by omega))
        generalize stepL xa xb (1 + xc % 3) xd L = L2 at *
        clear hS5 kx hS4 hIH hHH
        go_wp2_with fail
        generalize hwr0 : wr = wr0 at *
        clear hwr0
        go_loopw [7] (fun i wr => ∃ j : Nat, j ≤ 4 ∧ i = .int .i64 j ∧ Scene [] w [ledC b L2] wr) (fun i _ => 4 - (intOf i).toNat)
        case atStart => exact ⟨0, by omega, rfl, hS5H.out⟩
        case round =>
          obtain ⟨j, hj, rfl, hSj⟩ := hrel
          have hSjH := Lib.hid hSj
          clear hSj hS5H
          by_cases hj4 : j < 4
          · have hj4' : decide ((j : Int) < 4) = true := by rw [decide_eq_true_eq]; omega
            go_wp2_with fail
            generalize hwr1 : wr = wr1 at *
            clear hwr1
            go_loopw [8, 9, 10] (fun a c i wr => ∃ t : Nat, t ≤ 4 ∧ a = .int .i64 (cnt (acc 2 L2 j) t : Nat) ∧ c = .int .i64 (cnt (acc 1 L2 j) t : Nat) ∧ i = .int .i64 t ∧ Scene [] w [ledC b L2] wr) (fun _ _ i _ => 4 - (intOf i).toNat)
            case atStart => exact ⟨0, by omega, rfl, rfl, rfl, hSjH.out⟩
            case round =>
              obtain ⟨t, ht, rfl, rfl, rfl, hSt⟩ := hrel
              have hStH := Lib.hid hSt
              have hq2 := cnt_le (acc 2 L2 j) t
              have hq1 := cnt_le (acc 1 L2 j) t
              clear hSt hSjH
              by_cases ht4 : t < 4
              · have ht4' : decide ((t : Int) < 4) = true := by rw [decide_eq_true_eq]; omega
                have hwr := acc_wr hI2.out.inv (j : Int) t
                have e2 : (accE L2 j t ((t : Int) == 0) 2 == 0) = acc 2 L2 j t := by unfold acc; simp [BEq.beq]
                have e1 : (accE L2 j t ((t : Int) == 0) 1 == 0) = acc 1 L2 j t := by unfold acc; simp [BEq.beq]
                have p2 : ∃ y, acc 2 L2 j t = y := ⟨_, rfl⟩
                have p1 : ∃ y, acc 1 L2 j t = y := ⟨_, rfl⟩
                obtain ⟨y2, p2⟩ := p2
                obtain ⟨y1, p1⟩ := p1
                rw [p2] at e2
                rw [p1] at e1
                rw [p2, p1] at hwr
                have p2H := Lib.hid p2
                have p1H := Lib.hid p1
                clear p2 p1
                cases y2
                · cases y1
                  · clear hwr
                    go_wp2_with fail
                    refine (sc_access 0 hStH.out hI2.out (by omega) rfl (j : Int) (t : Int) ((t : Int) == 0) 2).mono ?_
                    rintro e w5 ⟨rfl, hm5⟩
                    have hS5 := Lib.hid (hStH.out.then hm5)
                    clear hm5 hStH
                    go_wp2_with fail
                    refine (sc_access 0 hS5.out hI2.out (by omega) rfl (j : Int) (t : Int) ((t : Int) == 0) 1).mono ?_
                    rintro e w6 ⟨rfl, hm6⟩
                    have hm6 := Lib.hid (hS5.out.then hm6)
                    clear hS5
                    go_wp2_with fail
                    go_roundw
                    case rel => exact ⟨t + 1, by omega, by simp only [cnt, p2H.out]; simp, by simp only [cnt, p1H.out]; simp, by go_num, hm6.out⟩
                    case measure => simp [intOf]; omega
                  · clear hwr
                    go_wp2_with fail
                    refine (sc_access 0 hStH.out hI2.out (by omega) rfl (j : Int) (t : Int) ((t : Int) == 0) 2).mono ?_
                    rintro e w5 ⟨rfl, hm5⟩
                    have hS5 := Lib.hid (hStH.out.then hm5)
                    clear hm5 hStH
                    go_wp2_with fail
                    refine (sc_access 0 hS5.out hI2.out (by omega) rfl (j : Int) (t : Int) ((t : Int) == 0) 1).mono ?_
                    rintro e w6 ⟨rfl, hm6⟩
                    have hm6 := Lib.hid (hS5.out.then hm6)
                    clear hS5
                    go_wp2_with fail
                    go_roundw
                    case rel => exact ⟨t + 1, by omega, by simp only [cnt, p2H.out]; simp, by simp only [cnt, p1H.out]; simp, by go_num, hm6.out⟩
                    case measure => simp [intOf]; omega
                · obtain rfl := hwr rfl
                  clear hwr
                  go_wp2_with fail
                  refine (sc_access 0 hStH.out hI2.out (by omega) rfl (j : Int) (t : Int) ((t : Int) == 0) 2).mono ?_
                  rintro e w5 ⟨rfl, hm5⟩
                  have hS5 := Lib.hid (hStH.out.then hm5)
                  clear hm5 hStH
                  go_wp2_with fail
                  refine (sc_access 0 hS5.out hI2.out (by omega) rfl (j : Int) (t : Int) ((t : Int) == 0) 1).mono ?_
                  rintro e w6 ⟨rfl, hm6⟩
                  have hm6 := Lib.hid (hS5.out.then hm6)
                  clear hS5
                  go_wp2_with fail
                  go_roundw
                  case rel => exact ⟨t + 1, by omega, by simp only [cnt, p2H.out]; simp, by simp only [cnt, p1H.out]; simp, by go_num, hm6.out⟩
                  case measure => simp [intOf]; omega
              · obtain rfl : t = 4 := by omega
                have hlaw := excl_law hI2.out.inv hH2.out (j : Int)
                generalize cnt (acc 2 L2 j) 4 = n2 at *
                generalize cnt (acc 1 L2 j) 4 = n1 at *
                rcases hlaw with ⟨rfl, rfl⟩ | ⟨rfl, h1⟩
                · go_wp2_with fail
                  go_roundw
                  case rel => exact ⟨j + 1, by omega, by go_num, hStH.out⟩
                  case measure => simp [intOf]; omega
                · have z1 : ((n1 : Int) == 0) = false := by simp; omega
                  clear h1
                  go_wp2_with fail
                  go_roundw
                  case rel => exact ⟨j + 1, by omega, by go_num, hStH.out⟩
                  case measure => simp [intOf]; omega
          · obtain rfl : j = 4 := by omega
            go_wp2_with fail
            go_roundw
            case rel => exact ⟨k + 1, L2, by omega, by omega, by go_num, hSjH.out, hI2.out, hH2.out⟩
            case measure => simp [intOf]; omega
    · have hcase : k = xs.length ∨ (k < xs.length ∧ k = 40) := by omega
      clear hgo
      rcases hcase with rfl | ⟨hlt, rfl⟩
      · generalize hkk : xs.length = k at *
        go_wp2_with fail
        refine (awake_ok _).mono ?_
        rintro e w5 ⟨rfl, hm5⟩
        have hm6 := Lib.hid (hSH.out.then hm5).mod
        clear hSH
        go_wp2_with fail
        go_ret
        exact ⟨rfl, hm6.out⟩
      · go_wp2_with fail
        refine (awake_ok _).mono ?_
        rintro e w5 ⟨rfl, hm5⟩
        have hm6 := Lib.hid (hSH.out.then hm5).mod
        clear hSH
        go_wp2_with fail
        go_ret
        exact ⟨rfl, hm6.out⟩
end Go.Proofs.Ytappkiiihnaegaa
