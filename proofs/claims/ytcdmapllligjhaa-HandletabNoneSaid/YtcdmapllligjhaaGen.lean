/- Generations: the slots' functions. -/
import Derived.Test.YtcdmapllligjhaaPoolG
import Derived.Test.YtcdmapllligjhaaFloat
namespace Go.Proofs.Ytcdmapllligjhaa
open Go Go.RowKit Go.Stg

/-- A slot: its generation, whether it is live. -/
abbrev Slot := Int × Bool
def gcells (S : List Slot) : List Value := S.flatMap fun s => [.int .i64 s.1, .bool s.2]
theorem gcells_length : ∀ S : List Slot, (gcells S).length = S.length * 2
  | [] => rfl
  | f :: r => by
    have := gcells_length r
    simp [gcells] at this ⊢
    omega
theorem gcells_at : ∀ (S : List Slot) (i : Nat) (h : i < S.length), (gcells S)[i * 2]? = some (.int .i64 S[i].1) ∧ (gcells S)[i * 2 + 1]? = some (.bool S[i].2)
  | [], i, h => by simp at h
  | f :: r, 0, _ => ⟨rfl, rfl⟩
  | f :: r, i + 1, h => by
    have e : gcells (f :: r) = .int .i64 f.1 :: .bool f.2 :: gcells r := rfl
    have h1 : (i + 1) * 2 = i * 2 + 2 := by omega
    have h2 : i * 2 + 2 + 1 = i * 2 + 1 + 2 := by omega
    rw [e, h1, h2]
    exact gcells_at r i (by simpa using h)
theorem gcells_set : ∀ (S : List Slot) (i : Nat) (a : Int) (l : Bool), i < S.length → ((gcells S).set (i * 2) (.int .i64 a)).set (i * 2 + 1) (.bool l) = gcells (S.set i (a, l))
  | [], i, _, _, h => by simp at h
  | f :: r, 0, a, b, _ => rfl
  | f :: r, i + 1, a, b, h => by
    have e : gcells (f :: r) = .int .i64 f.1 :: .bool f.2 :: gcells r := rfl
    have e2 : gcells (f :: r.set i (a, b)) = .int .i64 f.1 :: .bool f.2 :: gcells (r.set i (a, b)) := rfl
    have h1 : (i + 1) * 2 = i * 2 + 2 := by omega
    have h2 : i * 2 + 2 + 1 = i * 2 + 1 + 2 := by omega
    rw [List.set_cons_succ, e, e2, h1, h2, ← gcells_set r i a b (by simpa using h)]
    rfl
theorem gcells_live (S : List Slot) (i : Nat) (l : Bool) (h : i < S.length) : (gcells S).set (i * 2 + 1) (.bool l) = gcells (S.set i (S[i].1, l)) := by
  rw [← gcells_set S i S[i].1 l h]
  congr 1
  have h1 := (gcells_at S i h).1
  obtain ⟨hl, e⟩ := List.getElem?_eq_some_iff.1 h1
  rw [← e, List.set_getElem_self]
/-- Slots at block b. -/
structure GenAt (w : World) (b : Nat) (first : Int) (S : List Slot) (F : List Int) (ret : Int) (sl psv : Value) (pb : Nat) : Prop where
  blk : w.heap[b]? = some (.cells #[.int .i64 first, sl, .pointer (some ⟨pb, 0, none⟩), .int .i64 ret] 105 (0, 0))
  row : w.ownsRow 0 110 2 sl S.length (gcells S)
  pool : PoolAt 124 3 w pb psv (F.map (.int .i64))
  n1 : b ≠ pb
  n2 : sl.ownBlock ≠ some b ∧ sl.ownBlock ≠ some pb
  n3 : psv.ownBlock ≠ some b ∧ ∀ x, sl.ownBlock = some x → psv.ownBlock ≠ some x
/-- Its blocks. -/
def gfoot (b pb : Nat) (sl psv : Value) : List Nat := b :: pb :: (sl.ownBlock.toList ++ psv.ownBlock.toList)
theorem GenAt.mod {w w' : World} {b pb : Nat} {first ret : Int} {S : List Slot} {F : List Int} {sl psv : Value} {T : List Nat} (h : GenAt w b first S F ret sl psv pb) (hm : Mod T w w') (hT : ∀ x ∈ gfoot b pb sl psv, x ∉ T) : GenAt w' b first S F ret sl psv pb :=
  ⟨hm.at h.blk (hT b (by simp [gfoot])), row_mod h.row hm (fun g hg => hT g (by simp [gfoot, hg])), h.pool.mod hm (fun x hx => hT x (by
    rcases List.mem_cons.1 hx with rfl | hx
    · simp [gfoot]
    · simp only [gfoot, List.mem_cons, List.mem_append]; exact .inr (.inr (.inr hx)))), h.n1, h.n2, h.n3⟩
section
variable {w : World} {b pb : Nat} {first ret : Int} {S : List Slot} {F : List Int} {sl psv : Value} (h : GenAt w b first S F ret sl psv pb)
include h
theorem size_ok : Calls Try.prog 35 #[.pointer (some ⟨b, 0, none⟩)] w fun e w' => e = .returned (.int .i64 S.length) ∧ Mod [] w w' := by
  have hcb := cells_of h.blk
  have hln := fun ty w => row_len (ty := ty) Try.underlying101 h.row w
  clear h
  go_enter Try.func35, Try.ntmps35
  go_wp2
  go_ret
  exact ⟨rfl, Mod.refl _ _⟩
theorem retired_ok : Calls Try.prog 49 #[.pointer (some ⟨b, 0, none⟩)] w fun e w' => e = .returned (.int .i64 ret) ∧ Mod [] w w' := by
  have hcb := cells_of h.blk
  clear h
  go_enter Try.func49, Try.ntmps49
  go_wp2
  go_ret
  exact ⟨rfl, Mod.refl _ _⟩
/-- What Live returns. -/
def liveV (S : List Slot) (k : Int) : Value := .tuple #[.int .i64 (if 0 ≤ k then (match S[k.toNat]? with | some (g, true) => g | _ => 0) else 0), .bool (if 0 ≤ k then (match S[k.toNat]? with | some (_, true) => true | _ => false) else false)]
theorem live_ok (k : Int) : Calls Try.prog 36 #[.pointer (some ⟨b, 0, none⟩), .int .i64 k] w fun e w' => e = .returned (liveV S k) ∧ Mod [] w w' := by
  have hS := Lib.hid (size_ok h)
  by_cases hk : k < 0
  · have hV : liveV S k = .tuple #[.int .i64 0, .bool false] := by unfold liveV; rw [if_neg (by omega), if_neg (by omega)]
    rw [hV]
    clear h hV
    go_enter Try.func36, Try.ntmps36
    go_wp2_with fail
    go_ret2
    exact ⟨rfl, Mod.refl _ _⟩
  · by_cases hn : k < S.length
    · obtain ⟨j, rfl⟩ := Int.eq_ofNat_of_zero_le (show 0 ≤ k by omega)
      have hj : j < S.length := by omega
      have hrow := h.row
      obtain ⟨g, cap, rfl, _, hg⟩ := row_pos hrow (by omega)
      have e1 := (hrow.cellAt (j * 2) (by omega)).trans (gcells_at S j hj).1
      have e2 := (hrow.cellAt (j * 2 + 1) (by omega)).trans (gcells_at S j hj).2
      have hblk := h.blk
      have hV : liveV S j = .tuple #[.int .i64 (if S[j].2 then S[j].1 else 0), .bool S[j].2] := by
        unfold liveV
        simp only [if_pos (show (0 : Int) ≤ j by omega), Int.toNat_natCast, List.getElem?_eq_getElem hj]
        obtain ⟨x, y⟩ := S[j]
        cases y <;> rfl
      rw [hV]
      clear h hV
      generalize S[j] = s at *
      obtain ⟨ge, lv⟩ := s
      simp only at e1 e2
      go_enter Try.func36, Try.ntmps36
      go_wp2_with fail
      refine hS.out.mono ?_
      rintro e w1 ⟨rfl, hm1⟩
      have hcb := cells_of (hm1.at hblk (by simp))
      have c1 := (cell_mod hm1 hg (by simp)).trans e1
      have c2 := (cell_mod hm1 hg (by simp)).trans e2
      clear e1 e2 hrow hS
      cases lv with
      | true =>
        go_wp2_with fail
        go_ret2
        exact ⟨rfl, hm1⟩
      | false =>
        go_wp2_with fail
        go_ret2
        exact ⟨rfl, hm1⟩
    · have hV : liveV S k = .tuple #[.int .i64 0, .bool false] := by
        unfold liveV
        rw [List.getElem?_eq_none (by omega)]
        split <;> rfl
      rw [hV]
      clear h hV
      go_enter Try.func36, Try.ntmps36
      go_wp2_with fail
      refine hS.out.mono ?_
      rintro e w1 ⟨rfl, hm1⟩
      go_wp2_with fail
      go_ret2
      exact ⟨rfl, hm1⟩
end
end Go.Proofs.Ytcdmapllligjhaa
