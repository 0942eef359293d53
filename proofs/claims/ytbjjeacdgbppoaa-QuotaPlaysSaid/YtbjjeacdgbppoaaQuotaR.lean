/- The definition's meter: its functions. -/
import Derived.Test.YtbjjeacdgbppoaaQuota
namespace Go.Proofs.Ytbjjeacdgbppoaa
open Go Go.RowKit Go.Stg

/-- The cells of shares. -/
def scells : List (Int × Q) → List Value
  | [] => []
  | s :: l => .int .i64 s.1 :: .int .i64 s.2.b :: .int .i64 s.2.o :: .int .i64 s.2.r :: scells l
theorem scells_length : ∀ l : List (Int × Q), (scells l).length = l.length * 4
  | [] => rfl
  | s :: l => by simp [scells, scells_length l]; omega
theorem scells_append : ∀ l m : List (Int × Q), scells (l ++ m) = scells l ++ scells m
  | [], _ => rfl
  | s :: l, m => by simp [scells, scells_append l m]
theorem scells_at : ∀ (l : List (Int × Q)) (i : Nat) (h : i < l.length),
    (scells l)[i * 4]? = some (.int .i64 l[i].1) ∧ (scells l)[i * 4 + 1]? = some (.int .i64 l[i].2.b) ∧ (scells l)[i * 4 + 2]? = some (.int .i64 l[i].2.o) ∧ (scells l)[i * 4 + 3]? = some (.int .i64 l[i].2.r)
  | s :: l, 0, _ => by simp [scells]
  | s :: l, i + 1, h => by
    have := scells_at l i (by simpa using h)
    rw [show (i + 1) * 4 = i * 4 + 1 + 1 + 1 + 1 from by omega]
    simpa [scells, Nat.add_right_comm] using this
def rget (p : Int) : List (Int × Q) → Q
  | [] => Q.zero
  | s :: l => if s.1 = p then s.2 else rget p l
def rset (p : Int) (q : Q) (l : List (Int × Q)) : List (Int × Q) := l.filter (fun s => s.1 != p) ++ [(p, q)]

structure RAt (w : World) (b : Nat) (sv : Value) (l : Q) (L : List (Int × Q)) : Prop where
  lim : l.i64
  blk : w.heap[b]? = some (.cells #[.int .i64 l.b, .int .i64 l.o, .int .i64 l.r, sv] 37 (0, 0))
  row : w.ownsRow 0 52 4 sv L.length (scells L)
  ne : sv.ownBlock ≠ some b
  len : L.length ≤ 1000000
theorem RAt.mod {S : List Nat} {w w' : World} {b : Nat} {sv : Value} {l : Q} {L : List (Int × Q)} (h : RAt w b sv l L) (hm : Mod S w w') (hS : ∀ x, x ∈ b :: sv.ownBlock.toList → x ∉ S) : RAt w' b sv l L :=
  ⟨h.lim, hm.at h.blk (hS b (by simp)), row_mod h.row hm (fun g hg => hS g (by simp [hg])), h.ne, h.len⟩

theorem exceeds_any (a b l : Int) (w : World) (ha : 0 ≤ a) (h0 : 0 ≤ b) (h1 : b ≤ 9223372036854775807) (h2 : 0 ≤ l) (h3 : l ≤ 9223372036854775807) :
    Calls Try.prog 24 #[.int .i64 a, .int .i64 b, .int .i64 l] w fun e w' => e = .returned (.bool (!(fitsB a b l))) ∧ Mod [] w w' := by
  have he : (!(fitsB a b l)) = (decide (l < b) || decide (l - b < a)) := by
    rw [Bool.eq_iff_iff]
    simp [fitsB]
    omega
  rw [he]
  clear he
  go_enter Try.func24, Try.ntmps24
  go_wp2
  all_goals go_ret
  all_goals refine ⟨?_, Mod.refl _ _⟩
  all_goals (simp; try omega)

theorem RGet_any (p : Int) (l : Q) (b : Nat) (sv : Value) (L : List (Int × Q)) (w : World) (hR : RAt w b sv l L) :
    Calls Try.prog 14 #[.pointer (some ⟨b, 0, none⟩), .int .i64 p] w fun e w' => e = .returned (.agg #[.int .i64 (rget p L).b, .int .i64 (rget p L).o, .int .i64 (rget p L).r]) ∧ Mod [] w w' := by
  obtain ⟨hl, hb, hrow, hne, hlen⟩ := hR
  have hlb := lt_of hb
  have hcb := cells_of hb
  rcases row_cases hrow with ⟨rfl, hn, hx⟩ | ⟨g, cap, rfl, _, hg, hcap, hmax, hcell⟩
  · have hL : L = [] := List.length_eq_zero_iff.1 hn
    subst hL
    go_enter Try.func14, Try.ntmps14
    go_wp2
    go_loop [5] (fun i => i = .int .i64 0) (fun _ => 0)
    case atStart => rfl
    case round =>
      obtain rfl := hrel
      go_wp2
      exact bodyPost_ret (v := .agg #[.int .i64 0, .int .i64 0, .int .i64 0]) (by simp [results, Try.results14, go_sem]) rfl ⟨rfl, (Mod.refl _ _).alloc _⟩
  · go_enter Try.func14, Try.ntmps14
    go_wp2
    go_loop [5] (fun i => ∃ k : Nat, k ≤ L.length ∧ i = .int .i64 k ∧ rget p (L.drop k) = rget p L) (fun i => L.length - (intOf i).toNat)
    case atStart => exact ⟨0, Nat.zero_le _, rfl, rfl⟩
    case round =>
      obtain ⟨k, hk, rfl, hd⟩ := hrel
      by_cases hlt : k < L.length
      · obtain ⟨c0, c1, c2, c3⟩ := scells_at L k hlt
        rw [← hcell _ (by omega)] at c0 c1 c2 c3
        rw [show k * 4 + 2 = k * 4 + 1 + 1 from rfl] at c2
        rw [show k * 4 + 3 = k * 4 + 1 + 2 from rfl] at c3
        clear hcell
        have hdk := List.drop_eq_getElem_cons hlt
        by_cases he : L[k].1 = p
        · have hr : rget p L = L[k].2 := by rw [← hd, hdk]; simp [rget, he]
          have he' : (L[k].1 == p) = true := by simpa using he
          clear hd hdk
          go_wp2
          exact bodyPost_ret (v := .agg #[.int .i64 L[k].2.b, .int .i64 L[k].2.o, .int .i64 L[k].2.r]) (by simp [results, Try.results14, go_sem]) rfl ⟨by first | rfl | rw [hr], (Mod.refl _ _).alloc _⟩
        · have hr : rget p (L.drop (k + 1)) = rget p L := by rw [← hd, hdk]; simp [rget, he]
          have he' : (L[k].1 == p) = false := by simpa using he
          have HR := Lib.hid hr
          clear hd hdk hr
          go_wp2
          go_round
          case rel => exact ⟨k + 1, by omega, by go_num, HR.out⟩
          case measure => simp [intOf]; omega
      · have hk' : k = L.length := by omega
        have hr : Q.zero = rget p L := by rw [← hd, hk', List.drop_length]; rfl
        clear hd
        go_wp2
        exact bodyPost_ret (v := .agg #[.int .i64 0, .int .i64 0, .int .i64 0]) (by simp [results, Try.results14, go_sem]) rfl ⟨by first | rfl | (rw [← hr]; rfl), (Mod.refl _ _).alloc _⟩
end Go.Proofs.Ytbjjeacdgbppoaa
