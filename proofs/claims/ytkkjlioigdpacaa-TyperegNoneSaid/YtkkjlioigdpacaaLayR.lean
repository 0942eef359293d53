/- Layouts: the definition's places and Check. -/
import Derived.Test.YtkkjlioigdpacaaLayS
import Derived.Laws.OwnMore
namespace Go.Proofs.Ytkkjlioigdpacaa
open Go Go.RowKit Go.Stg

/-- The cells of the places of the first k fields. -/
def pcells (fs : List Fld) : Nat → List Value
  | 0 => []
  | k + 1 => pcells fs k ++ (outC fs k (k + 1)).toList
theorem pcells_length (fs : List Fld) : ∀ k, (pcells fs k).length = k * 3
  | 0 => rfl
  | k + 1 => by
    obtain ⟨x, y, z, h⟩ := outC_size fs k (k + 1)
    simp [pcells, pcells_length fs k, h]
    omega
theorem pcells_get (fs : List Fld) : ∀ (n i j : Nat), i < n → j < 3 → (pcells fs n)[i * 3 + j]? = (outC fs i (i + 1))[j]?
  | 0, i, j, h, _ => by omega
  | n + 1, i, j, h, hj => by
    obtain ⟨x, y, z, ho⟩ := outC_size fs n (n + 1)
    by_cases e : i = n
    · subst e
      rw [pcells, List.getElem?_append_right (by rw [pcells_length]; omega), pcells_length, Nat.add_sub_cancel_left, Array.getElem?_toList]
    · rw [pcells, List.getElem?_append_left (by rw [pcells_length]; omega)]
      exact pcells_get fs n i j (by omega) hj
theorem outC_le (fs : List Fld) (i : Nat) : outC fs i fs.length = outC fs i (i + 1) := by
  unfold outC
  have e : (0 ≤ (i : Int) ∧ (i : Int).toNat < fs.length ∧ (i : Int).toNat < fs.length) = (0 ≤ (i : Int) ∧ (i : Int).toNat < i + 1 ∧ (i : Int).toNat < fs.length) := by
    apply propext
    constructor <;> rintro ⟨h1, h2, h3⟩ <;> exact ⟨h1, by omega, h3⟩
  simp only [e]
theorem info_place : (Try.prog.info? 83).map (fun i => (i.zero, i.size, i.bytes)) = some (some (.agg #[.int .i64 0, .int .i64 0, .int .i64 0]), 3, 24) := by kernel_rfl
theorem cells3 (w : World) (a b c : Value) (T : TypeId) : ∀ j u, [a, b, c][j]? = some u → (w.alloc (.cells #[a, b, c] T)).cell? ((⟨w.heap.size, 0, none⟩ : Addr).add j) = some u := by
  intro j u h
  have hadd : (⟨w.heap.size, 0, none⟩ : Addr).add j = ⟨w.heap.size, j, none⟩ := by unfold Addr.add; split <;> simp_all
  rw [hadd, cells_of (at_alloc w _)]
  simpa using h
set_option maxHeartbeats 4000000 in
set_option maxRecDepth 10000 in
theorem rplaces_ok (v : Value) (fs : List Fld) (w : World) (h : FieldsAt w v fs) (hg : Good fs) (hl : fs.length ≤ 100) :
    Calls Try.prog 34 #[.agg #[.int .i64 0, v]] w fun e w' => ∃ pv, e = .returned (.tuple #[pv, .int .i64 (sizeR fs)]) ∧ Mod [] w w' ∧ w'.ownsRow 0 83 3 pv fs.length (pcells fs fs.length) := by
  obtain ⟨i0, hi0, hz0, hz1, hz2⟩ := info_parts info_place
  have hln := fun ty w => h.len ty w
  have q0 := at_alloc w (.cells #[.int .i64 0, v] 31)
  have hm0 := (Mod.refl [] w).alloc (.cells #[.int .i64 0, v] 31)
  have h' := h.mod hm0
  go_enter Try.func34, Try.ntmps34
  go_wp2_with fail
  generalize w.alloc (.cells #[.int .i64 0, v] 31) = W at *
  go_loopw [4, 8, 9, 10] (fun pv en mo i wr => ∃ k : Nat, k ≤ fs.length ∧ i = .int .i64 k ∧ en = .int .i64 (runL (fs.take k)).1 ∧ mo = .int .i64 (runL (fs.take k)).2 ∧ Mod [] W wr ∧ wr.ownsRow 0 83 3 pv k (pcells fs k) ∧ ∀ x, pv.ownBlock = some x → W.heap.size ≤ x) (fun _ _ _ i _ => fs.length - (intOf i).toNat)
  case atStart => exact ⟨0, by omega, rfl, rfl, rfl, Mod.refl _ _, World.ownsRow_nil _ _ _ _, by simp [Value.ownBlock]⟩
  case round =>
    obtain ⟨k, hk, rfl, rfl, rfl, hm, hrow, hfrs⟩ := hrel
    have r0 := hm.at q0 (by simp)
    have cb := cells_of r0
    by_cases hlt : k < fs.length
    · rcases h' with ⟨_, rfl⟩ | ⟨sb, so, cap, rfl, g2, g3, g4⟩
      · simp at hlt
      · have c1 := (cell_mod hm g2 (by simp)).trans (g4 k hlt).1
        have c2 := (cell_mod hm g2 (by simp)).trans (g4 k hlt).2
        obtain ⟨g1, g21, g31, g41, g51⟩ := good_of (hg fs[k] (List.getElem_mem hlt))
        obtain ⟨b1, b2, b3, b4⟩ := runL_take fs hg k hk
        have hsn : runL (fs.take (k + 1)) = stepL (runL (fs.take k)) fs[k] := by rw [take_snoc fs hlt, runL_snoc]
        have hoh := outC_here hlt
        have hpc : pcells fs (k + 1) = pcells fs k ++ (outC fs k (k + 1)).toList := rfl
        rw [hoh] at hpc
        clear g4 hoh h
        generalize fs[k] = f at *
        generalize runL (fs.take k) = s at *
        obtain ⟨en, mo⟩ := s
        obtain ⟨fk, fc⟩ := f
        simp only at g1 g21 b1 b2 b3 b4 c1 c2
        have hu := upI_bounds (n := en) (k := ali (fk, fc)) (by omega)
        have hpcH := Lib.hid hpc
        clear hpc
        go_wp2_with fail
        refine (rwidth_ok fk fc g1 g21 _).mono ?_
        rintro e w1 ⟨rfl, hm1⟩
        go_wp2_with fail
        refine (up_okRUp en (ali (fk, fc)) (by omega) (by omega) (by omega) (by omega) _).mono ?_
        rintro e w2 ⟨rfl, hm2⟩
        have r2 := hm2.at (hm1.at r0 (by simp)) (by simp)
        have c1 := (cell_mod hm2 (hm1.lt (hm.lt g2)) (by simp)).trans ((cell_mod hm1 (hm.lt g2) (by simp)).trans c1)
        have hrow2 := row_mod (row_mod hrow hm1 (by simp)) hm2 (by simp)
        have hm2 := (hm.nil_then hm1).nil_then hm2
        have cb2 := cells_of r2
        clear hm hm1 r0 cb c2 hrow
        have hst : stepL (en, mo) (fk, fc) = (upI en (ali (fk, fc)) + wid (fk, fc), max mo (ali (fk, fc))) := rfl
        rw [hst] at hsn
        generalize hz : upI en (ali (fk, fc)) = z at *
        generalize hwd : wid (fk, fc) = wd at *
        generalize hal : ali (fk, fc) = al at *
        clear hst hz hwd hal
        have h63 : k + 1 ≤ maxLen := by unfold maxLen; omega
        have hby : (k + 1) * 24 ≤ 140737488355328 := by omega
        have hsnH := Lib.hid hsn
        clear hsn
        go_wp2_with (first | (at_builtin; refine wpList_append_row _ rfl _ _ 78 rfl 83 i0 (.agg #[.int .i64 0, .int .i64 0, .int .i64 0]) 3 24 Try.underlying78 hi0 hz0 hz1 hz2 rfl (by decide) u4 k (pcells fs k) rfl (hrow2.alloc _) ⟨w2.heap.size, 0, none⟩ 1 1 [.int .i64 z, .int .i64 wd, .int .i64 fk] rfl rfl (cells3 _ _ _ _ _) (by simp [Value.oneCell']) h63 hby ?_; intro v' w3 hown3 hgrow hfr))
        have hm3 : Mod [] W w3 := (hm2.alloc _).grown hgrow (fun j hj => .inr (hfrs j hj))
        have hfr3 : ∀ x, v'.ownBlock = some x → W.heap.size ≤ x := fun x hx => by
          rcases hfr x hx with h | h
          · exact hfrs x h
          · have := hm2.size; simp at h; omega
        go_roundw
        case rel =>
          refine ⟨k + 1, by omega, by go_num, by rw [hsnH.out], by rw [hsnH.out]; congr 1; omega, hm3, ?_, hfr3⟩
          rw [hpcH.out]
          exact hown3
        case measure => simp [intOf]; omega
    · obtain rfl : k = fs.length := by omega
      obtain ⟨b1, b2, b3, b4⟩ := runL_bounds fs hg
      have hsz : sizeR fs = upI (runL fs).1 (runL fs).2 := rfl
      clear hg h
      rw [List.take_length]
      generalize runL fs = s at *
      obtain ⟨en, mo⟩ := s
      simp only at b1 b2 b3 b4 hsz
      have hszH := Lib.hid hsz
      clear hsz
      go_wp2_with fail
      refine (up_okRUp en mo (by omega) (by omega) (by omega) (by omega) _).mono ?_
      rintro e w1 ⟨rfl, hm1⟩
      go_wp2_with fail
      go_ret2
      exact ⟨u4, by rw [hszH.out]; rfl, (hm0.nil_then hm).nil_then hm1, row_mod hrow hm1 (by simp)⟩
end Go.Proofs.Ytkkjlioigdpacaa
