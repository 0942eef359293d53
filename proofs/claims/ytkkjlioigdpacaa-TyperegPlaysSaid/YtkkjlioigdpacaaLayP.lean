/- Layouts: lists of fields. -/
import Derived.Test.YtkkjlioigdpacaaLay
namespace Go.Proofs.Ytkkjlioigdpacaa
open Go Go.RowKit Go.Stg

def stepL (s : Int × Int) (f : Fld) : Int × Int := (upI s.1 (ali f) + wid f, max s.2 (ali f))
/-- The end of the last field, and the greatest alignment. -/
def runL (fs : List Fld) : Int × Int := fs.foldl stepL (0, 1)
def sizeR (fs : List Fld) : Int := upI (runL fs).1 (runL fs).2
/-- The place of field i. -/
def placeR (fs : List Fld) (i : Nat) (f : Fld) : Value := .agg #[.int .i64 (upI (runL (fs.take i)).1 (ali f)), .int .i64 (wid f), .int .i64 f.1]
def noPlace : Value := .agg #[.int .i64 0, .int .i64 0, .int .i64 0]
def Good (fs : List Fld) : Prop := ∀ f ∈ fs, errF f = 0
theorem runL_snoc (fs : List Fld) (f : Fld) : runL (fs ++ [f]) = stepL (runL fs) f := by simp [runL]
theorem take_snoc {α : Type} (l : List α) {k : Nat} (h : k < l.length) : l.take (k + 1) = l.take k ++ [l[k]] := by
  rw [List.take_add_one, List.getElem?_eq_getElem h]; rfl
theorem runL_take : ∀ (fs : List Fld), Good fs → ∀ k, k ≤ fs.length → 0 ≤ (runL (fs.take k)).1 ∧ (runL (fs.take k)).1 ≤ k * 65544 ∧ 1 ≤ (runL (fs.take k)).2 ∧ (runL (fs.take k)).2 ≤ 8 := by
  intro fs hg k
  induction k with
  | zero => intro _; simp [runL]
  | succ k ih =>
    intro hk
    obtain ⟨h1, h2, h3, h4⟩ := ih (by omega)
    obtain ⟨g1, g2, g3, g4, g5⟩ := good_of (hg fs[k] (List.getElem_mem (by omega)))
    rw [take_snoc fs (by omega), runL_snoc]
    unfold stepL
    have hu := upI_bounds (n := (runL (fs.take k)).1) (k := ali fs[k]) (by omega)
    generalize upI (runL (fs.take k)).1 (ali fs[k]) = z at *
    refine ⟨by omega, ?_, by omega, by omega⟩
    push_cast
    omega
theorem runL_bounds (fs : List Fld) (hg : Good fs) : 0 ≤ (runL fs).1 ∧ (runL fs).1 ≤ fs.length * 65544 ∧ 1 ≤ (runL fs).2 ∧ (runL fs).2 ≤ 8 := by
  have h := runL_take fs hg fs.length (Nat.le_refl _)
  rwa [List.take_length] at h

/-- A list of fields that can be read. -/
def FieldsAt (w : World) (v : Value) (fs : List Fld) : Prop :=
  (v = .slice none 0 0 ∧ fs = []) ∨ ∃ sb so cap, v = .slice (some ⟨sb, so, none⟩) fs.length cap ∧ sb < w.heap.size ∧ fs.length ≤ maxLen ∧
    ∀ i (h : i < fs.length), w.cell? ⟨sb, so + i * 2, none⟩ = some (.int .i64 fs[i].1) ∧ w.cell? ⟨sb, so + i * 2 + 1, none⟩ = some (.int .i64 fs[i].2)
theorem FieldsAt.len {w0 : World} {v : Value} {fs : List Fld} (h : FieldsAt w0 v fs) (ty : TypeId) (w : World) : (Builtin.len_ #[29] ty #[v]).run Try.prog w = .ok (.int .i64 fs.length) w := by
  rcases h with ⟨rfl, rfl⟩ | ⟨sb, so, cap, rfl, _⟩ <;> simp [Builtin.len_, run_underlying Try.underlying29, goInt]
theorem cell_mod {S : List Nat} {w w' : World} {b o : Nat} (hm : Mod S w w') (hb : b < w.heap.size) (hS : b ∉ S) : w'.cell? ⟨b, o, none⟩ = w.cell? ⟨b, o, none⟩ :=
  World.cell?_of_block (a := ⟨b, o, none⟩) (hm.block b hb hS)
theorem FieldsAt.mod {w w' : World} {v : Value} {fs : List Fld} (h : FieldsAt w v fs) (hm : Mod [] w w') : FieldsAt w' v fs := by
  rcases h with h | ⟨sb, so, cap, rfl, h2, h3, h4⟩
  · exact .inl h
  · exact .inr ⟨sb, so, cap, rfl, hm.lt h2, h3, fun i hi => ⟨(cell_mod hm h2 (by simp)).trans (h4 i hi).1, (cell_mod hm h2 (by simp)).trans (h4 i hi).2⟩⟩
theorem FieldsAt.small {w : World} {v : Value} {fs : List Fld} (h : FieldsAt w v fs) : fs.length ≤ 9223372036854775807 := by
  rcases h with ⟨_, rfl⟩ | ⟨_, _, _, _, _, h, _⟩
  · simp
  · exact h

section
variable {P : Program} {ops : Array Oper} {I : World → Prop} {Out : Prop} {Q : Act → World → Prop}
/-- A writing operation that yields nothing. -/
theorem stage_write (C' : World → Prop) {o : Oper} {rest : List Oper} {C : World → Prop} {a : Act}
    (hw : Region.wanted o (yielded ops a.tmps) = true) (he : eff o = true)
    (hrun : ∀ w, C w → ∃ w', (execOp a.eval o).run P w = .ok .skip w' ∧ C' w') (hI : ∀ w, C' w → I w)
    (h : wpStage P ops I Out Q rest C' (a.put o.dst undef)) : wpStage P ops I Out Q (o :: rest) C a := by
  unfold wpStage
  simp only [hw, he, if_true]
  refine ⟨fun u => u = undef, fun u w => u = undef ∧ C' w, ⟨undef, rfl⟩, fun w hc => ?_, fun u w hu => ⟨hu.1, .inr (hI w hu.2)⟩, fun u hu => ?_⟩
  · obtain ⟨w', hr, h1⟩ := hrun w hc
    unfold gives
    rw [hr]
    exact ⟨rfl, h1⟩
  · subst hu
    simpa using h
end
/-- The cells of the place that is looked for, k fields having been read. -/
def outC (fs : List Fld) (at' : Int) (k : Nat) : Array Value :=
  if h : 0 ≤ at' ∧ at'.toNat < k ∧ at'.toNat < fs.length then #[.int .i64 (upI (runL (fs.take at'.toNat)).1 (ali fs[at'.toNat])), .int .i64 (wid fs[at'.toNat]), .int .i64 fs[at'.toNat].1] else #[.int .i64 0, .int .i64 0, .int .i64 0]
theorem outC_other {fs : List Fld} {at' : Int} {k : Nat} (h : ((k : Int) == at') = false) : outC fs at' (k + 1) = outC fs at' k := by
  have hne : (k : Int) ≠ at' := by simpa using h
  have e : (0 ≤ at' ∧ at'.toNat < k + 1 ∧ at'.toNat < fs.length) = (0 ≤ at' ∧ at'.toNat < k ∧ at'.toNat < fs.length) := by
    apply propext
    constructor <;> rintro ⟨h1, h2, h3⟩ <;> exact ⟨h1, by omega, h3⟩
  unfold outC
  simp only [e]
theorem outC_here {fs : List Fld} {k : Nat} (h : k < fs.length) : outC fs k (k + 1) = #[.int .i64 (upI (runL (fs.take k)).1 (ali fs[k])), .int .i64 (wid fs[k]), .int .i64 fs[k].1] := by
  unfold outC
  rw [dif_pos ⟨by omega, by omega, by omega⟩]
  simp only [Int.toNat_natCast]
theorem outC_size (fs : List Fld) (at' : Int) (k : Nat) : ∃ x y z, outC fs at' k = #[.int .i64 x, .int .i64 y, .int .i64 z] := by
  unfold outC
  split
  · exact ⟨_, _, _, rfl⟩
  · exact ⟨_, _, _, rfl⟩
set_option maxHeartbeats 4000000 in
set_option maxRecDepth 10000 in
theorem places_ok (v : Value) (fs : List Fld) (at' : Int) (w : World) (h : FieldsAt w v fs) (hg : Good fs) (hl : fs.length ≤ 100) :
    Calls Try.prog 36 #[v, .int .i64 at'] w fun e w' => e = .returned (.tuple #[.agg (outC fs at' fs.length), .int .i64 (sizeR fs)]) ∧ Mod [] w w' := by
  have hln := fun ty w => h.len ty w
  go_enter Try.func36, Try.ntmps36
  go_wp2_with fail
  have q0 := at_alloc_old (o := .cells #[.int .i64 0, .int .i64 0, .int .i64 0] 83) (at_alloc w (.cells #[.int .i64 0, .int .i64 0, .int .i64 0] 83))
  have q1 := at_alloc (w.alloc (.cells #[.int .i64 0, .int .i64 0, .int .i64 0] 83)) (.cells #[.int .i64 0, .int .i64 0, .int .i64 0] 83)
  rw [World.size_alloc] at q1
  have hm0 := ((Mod.refl [] w).alloc (.cells #[.int .i64 0, .int .i64 0, .int .i64 0] 83)).alloc (.cells #[.int .i64 0, .int .i64 0, .int .i64 0] 83)
  generalize (w.alloc (.cells #[.int .i64 0, .int .i64 0, .int .i64 0] 83)).alloc (.cells #[.int .i64 0, .int .i64 0, .int .i64 0] 83) = W at *
  go_loopw [7, 8, 15] (fun en mo i wr => ∃ k : Nat, k ≤ fs.length ∧ i = .int .i64 k ∧ en = .int .i64 (runL (fs.take k)).1 ∧ mo = .int .i64 (runL (fs.take k)).2 ∧ Mod [] w wr ∧ wr.heap[w.heap.size]? = some (.cells #[.int .i64 0, .int .i64 0, .int .i64 0] 83 (0, 0)) ∧ wr.heap[w.heap.size + 1]? = some (.cells (outC fs at' k) 83 (0, 0))) (fun _ _ i _ => fs.length - (intOf i).toNat)
  case atStart => exact ⟨0, by omega, rfl, rfl, rfl, hm0, q0, by simpa [outC] using q1⟩
  case round =>
    obtain ⟨k, hk, rfl, rfl, rfl, hm, r0, r1⟩ := hrel
    clear q0 q1 hm0
    by_cases hlt : k < fs.length
    · rcases h with ⟨_, rfl⟩ | ⟨sb, so, cap, rfl, h2, h3, h4⟩
      · simp at hlt
      · have c1 := (cell_mod hm h2 (by simp)).trans (h4 k hlt).1
        have c2 := (cell_mod hm h2 (by simp)).trans (h4 k hlt).2
        obtain ⟨g1, g2, g3, g4, g5⟩ := good_of (hg fs[k] (List.getElem_mem hlt))
        obtain ⟨b1, b2, b3, b4⟩ := runL_take fs hg k hk
        have hsn : runL (fs.take (k + 1)) = stepL (runL (fs.take k)) fs[k] := by rw [take_snoc fs hlt, runL_snoc]
        have hoh := fun (e : (k : Int) = at') => (by subst e; exact outC_here hlt : outC fs at' (k + 1) = #[.int .i64 (upI (runL (fs.take k)).1 (ali fs[k])), .int .i64 (wid fs[k]), .int .i64 fs[k].1])
        clear h4
        generalize fs[k] = f at *
        generalize runL (fs.take k) = s at *
        obtain ⟨en, mo⟩ := s
        obtain ⟨fk, fc⟩ := f
        simp only at g1 g2 b1 b2 b3 b4 c1 c2
        have hu := upI_bounds (n := en) (k := ali (fk, fc)) (by omega)
        go_wp2_with fail
        refine (ali_ok fk fc _).mono ?_
        rintro e w1 ⟨rfl, hm1⟩
        have f1 := hm1.at (at_alloc wr (.cells #[.int .i64 fk, .int .i64 fc] 28)) (by simp)
        have r0 := hm1.at (at_alloc_old (o := .cells #[.int .i64 fk, .int .i64 fc] 28) r0) (by simp)
        have r1 := hm1.at (at_alloc_old (o := .cells #[.int .i64 fk, .int .i64 fc] 28) r1) (by simp)
        have hm1 := (hm.alloc (.cells #[.int .i64 fk, .int .i64 fc] 28)).nil_then hm1
        generalize wr.heap.size = F at *
        clear c1 c2 hm
        go_wp2_with fail
        refine (up_okUp en (ali (fk, fc)) (by omega) (by omega) (by omega) (by omega) _).mono ?_
        rintro e w2 ⟨rfl, hm2⟩
        have f2 := hm2.at f1 (by simp)
        have r0 := hm2.at r0 (by simp)
        have r1 := hm2.at r1 (by simp)
        have hm2 := hm1.nil_then hm2
        have cf := cells_of f2
        clear f1 hm1
        go_wp2_with fail
        refine (width_ok fk fc _).mono ?_
        rintro e w3 ⟨rfl, hm3⟩
        have f3 := hm3.at f2 (by simp)
        have r0 := hm3.at r0 (by simp)
        have r1 := hm3.at r1 (by simp)
        have hm3 := hm2.nil_then hm3
        clear f2 hm2 cf
        have hst : stepL (en, mo) (fk, fc) = (upI en (ali (fk, fc)) + wid (fk, fc), max mo (ali (fk, fc))) := rfl
        rw [hst] at hsn
        generalize upI en (ali (fk, fc)) = z at *
        generalize hwd : wid (fk, fc) = wd at *
        generalize ali (fk, fc) = al at *
        clear hst
        have cf := cells_of f3
        by_cases hat : (k : Int) = at'
        · subst hat
          by_cases hmx : mo < al
          · go_wp2_with fail
            have k1 := GW.cells (S := []) f3 (by simp)
            have hoh := hoh trivial
            obtain ⟨x, y, z0, ho⟩ := outC_size fs k k
            rw [ho] at r1
            clear cf
            refine wp_region_pure (by kernel_rfl) (by kernel_rfl) ?_
            refine stage_quiet 2 (by kernel_rfl) ?_
            simp only [List.take_succ_cons, List.take_zero, List.drop_succ_cons, List.drop_zero]
            repeat (go_big_quiet_step (fail))
            refine wpQuiet_nil ?_
            refine stage_pure 35 _ (.int .i64 wd) rfl Try.call35 rfl rfl (fun w' _ => (width_ok fk fc w').mono fun e w'' ⟨he, hm⟩ => ⟨by rw [he, hwd], hm⟩) ?_
            simp only [Act.put, List.setIfInBounds_toArray, List.set_cons_succ, List.set_cons_zero]
            refine stage_quiet 3 (by kernel_rfl) ?_
            simp only [List.take_succ_cons, List.take_zero, List.drop_succ_cons, List.drop_zero]
            repeat (go_big_quiet_step (fail))
            refine wpQuiet_nil ?_
            refine stage_store (p := ⟨w.heap.size + 1, 0, none⟩) (u := .agg #[.int .i64 z, .int .i64 wd, .int .i64 fk]) (fun w' => ((w'.setCell ⟨w.heap.size + 1, 0, none⟩ (.int .i64 z)).setCell ⟨w.heap.size + 1, 1, none⟩ (.int .i64 wd)).setCell ⟨w.heap.size + 1, 2, none⟩ (.int .i64 fk)) rfl rfl (by kernel_rfl) rfl rfl rfl (fun w' hw => ?_) (fun w4 hm4 => ?_)
            · have d := hw.at r1 (by simp)
              have d1 := cells_of d
              have d2 := frozen_of d
              clear k1 r1 r0 f3
              go_simp
            · have r0 := hm4.at r0 (by simp)
              have r1 := hm4.at r1 (by simp)
              have hm4 := hm3.nil_then hm4
              have r0 := at_setCell_other (a := ⟨w.heap.size + 1, 2, none⟩) (v := .int .i64 fk) (at_setCell_other (a := ⟨w.heap.size + 1, 1, none⟩) (v := .int .i64 wd) (at_setCell_other (a := ⟨w.heap.size + 1, 0, none⟩) (v := .int .i64 z) r0 (by simp)) (by simp)) (by simp)
              have r1 := at_setCell (o := 2) (v := .int .i64 fk) (at_setCell (o := 1) (v := .int .i64 wd) (at_setCell (o := 0) (v := .int .i64 z) r1))
              have hm4 := ((hm4.setCell (p := ⟨w.heap.size + 1, 0, none⟩) (.inr (by show w.heap.size ≤ w.heap.size + 1; omega)) (.int .i64 z)).setCell (p := ⟨w.heap.size + 1, 1, none⟩) (.inr (by show w.heap.size ≤ w.heap.size + 1; omega)) (.int .i64 wd)).setCell (p := ⟨w.heap.size + 1, 2, none⟩) (.inr (by show w.heap.size ≤ w.heap.size + 1; omega)) (.int .i64 fk)
              generalize ((w4.setCell ⟨w.heap.size + 1, 0, none⟩ (.int .i64 z)).setCell ⟨w.heap.size + 1, 1, none⟩ (.int .i64 wd)).setCell ⟨w.heap.size + 1, 2, none⟩ (.int .i64 fk) = w5 at *
              clear k1 f3
              go_wp2_with fail
              go_roundw
              case rel =>
                refine ⟨k + 1, by omega, by go_num, by rw [hsn], by rw [hsn]; congr 1; omega, hm4, r0, ?_⟩
                rw [hoh]
                exact r1
              case measure => simp [intOf]; omega
          · go_wp2_with fail
            have k1 := GW.cells (S := []) f3 (by simp)
            have hoh := hoh trivial
            obtain ⟨x, y, z0, ho⟩ := outC_size fs k k
            rw [ho] at r1
            clear cf
            refine wp_region_pure (by kernel_rfl) (by kernel_rfl) ?_
            refine stage_quiet 2 (by kernel_rfl) ?_
            simp only [List.take_succ_cons, List.take_zero, List.drop_succ_cons, List.drop_zero]
            repeat (go_big_quiet_step (fail))
            refine wpQuiet_nil ?_
            refine stage_pure 35 _ (.int .i64 wd) rfl Try.call35 rfl rfl (fun w' _ => (width_ok fk fc w').mono fun e w'' ⟨he, hm⟩ => ⟨by rw [he, hwd], hm⟩) ?_
            simp only [Act.put, List.setIfInBounds_toArray, List.set_cons_succ, List.set_cons_zero]
            refine stage_quiet 3 (by kernel_rfl) ?_
            simp only [List.take_succ_cons, List.take_zero, List.drop_succ_cons, List.drop_zero]
            repeat (go_big_quiet_step (fail))
            refine wpQuiet_nil ?_
            refine stage_store (p := ⟨w.heap.size + 1, 0, none⟩) (u := .agg #[.int .i64 z, .int .i64 wd, .int .i64 fk]) (fun w' => ((w'.setCell ⟨w.heap.size + 1, 0, none⟩ (.int .i64 z)).setCell ⟨w.heap.size + 1, 1, none⟩ (.int .i64 wd)).setCell ⟨w.heap.size + 1, 2, none⟩ (.int .i64 fk)) rfl rfl (by kernel_rfl) rfl rfl rfl (fun w' hw => ?_) (fun w4 hm4 => ?_)
            · have d := hw.at r1 (by simp)
              have d1 := cells_of d
              have d2 := frozen_of d
              clear k1 r1 r0 f3
              go_simp
            · have r0 := hm4.at r0 (by simp)
              have r1 := hm4.at r1 (by simp)
              have hm4 := hm3.nil_then hm4
              have r0 := at_setCell_other (a := ⟨w.heap.size + 1, 2, none⟩) (v := .int .i64 fk) (at_setCell_other (a := ⟨w.heap.size + 1, 1, none⟩) (v := .int .i64 wd) (at_setCell_other (a := ⟨w.heap.size + 1, 0, none⟩) (v := .int .i64 z) r0 (by simp)) (by simp)) (by simp)
              have r1 := at_setCell (o := 2) (v := .int .i64 fk) (at_setCell (o := 1) (v := .int .i64 wd) (at_setCell (o := 0) (v := .int .i64 z) r1))
              have hm4 := ((hm4.setCell (p := ⟨w.heap.size + 1, 0, none⟩) (.inr (by show w.heap.size ≤ w.heap.size + 1; omega)) (.int .i64 z)).setCell (p := ⟨w.heap.size + 1, 1, none⟩) (.inr (by show w.heap.size ≤ w.heap.size + 1; omega)) (.int .i64 wd)).setCell (p := ⟨w.heap.size + 1, 2, none⟩) (.inr (by show w.heap.size ≤ w.heap.size + 1; omega)) (.int .i64 fk)
              generalize ((w4.setCell ⟨w.heap.size + 1, 0, none⟩ (.int .i64 z)).setCell ⟨w.heap.size + 1, 1, none⟩ (.int .i64 wd)).setCell ⟨w.heap.size + 1, 2, none⟩ (.int .i64 fk) = w5 at *
              clear k1 f3
              go_wp2_with fail
              go_roundw
              case rel =>
                refine ⟨k + 1, by omega, by go_num, by rw [hsn], by rw [hsn]; congr 1; omega, hm4, r0, ?_⟩
                rw [hoh]
                exact r1
              case measure => simp [intOf]; omega
        · go_wp2_with fail
          go_roundw
          case rel => exact ⟨k + 1, by omega, by go_num, by rw [hsn], by rw [hsn]; congr 1; omega, hm3, r0, by rw [outC_other (by simpa using hat)]; exact r1⟩
          case measure => simp [intOf]; omega
    · obtain rfl : k = fs.length := by omega
      obtain ⟨x, y, z0, ho⟩ := outC_size fs at' fs.length
      rw [ho] at r1
      obtain ⟨b1, b2, b3, b4⟩ := runL_bounds fs hg
      have hsz : sizeR fs = upI (runL fs).1 (runL fs).2 := rfl
      have c1 := cells_of r1
      rw [List.take_length]
      clear hg
      generalize runL fs = s at *
      obtain ⟨en, mo⟩ := s
      simp only at b1 b2 b3 b4 hsz
      have hoH := Lib.hid ho
      have hszH := Lib.hid hsz
      clear ho hsz
      go_wp2_with fail
      have k1 := GW.cells (S := [w.heap.size]) r1 (by simp)
      clear c1 h hln
      refine wp_region_stage (fun w' => ∃ x : GW [w.heap.size] wr, w' = x.1) (fun w' => Mod [] wr w') (by kernel_rfl) (by kernel_rfl) (fun _ h => InGW.of (h.mono (by simp))) (Mod.refl _ _).drew ?_
      refine stage_quiet 3 (by kernel_rfl) ?_
      simp only [List.take_succ_cons, List.take_zero, List.drop_succ_cons, List.drop_zero]
      repeat (go_big_quiet_step (fail))
      refine wpQuiet_nil ?_
      refine stage_go 39 _ (.int .i64 (upI en mo)) (fun w' => Mod [] wr w') rfl Try.call39 rfl rfl (fun w' h => (up_okUp en mo (by omega) (by omega) (by omega) (by omega) w').mono fun e w'' ⟨he, hm⟩ => ⟨he, h.nil_then hm⟩) (fun _ h => InGW.of (h.mono (by simp))) ?_
      simp only [Act.put, List.setIfInBounds_toArray, List.set_cons_succ, List.set_cons_zero]
      refine stage_write (fun w' => Mod [w.heap.size] wr w' ∧ w'.heap[w.heap.size]? = some (.cells #[.int .i64 x, .int .i64 y, .int .i64 z0] 83 (0, 0))) rfl rfl (fun w' h => ⟨((w'.setCell ⟨w.heap.size, 0, none⟩ (.int .i64 x)).setCell ⟨w.heap.size, 1, none⟩ (.int .i64 y)).setCell ⟨w.heap.size, 2, none⟩ (.int .i64 z0), ?_, ?_, ?_⟩) (fun _ h => InGW.of h.1) ?_
      · have d := h.at r0 (by simp)
        have d1 := cells_of d
        have d2 := frozen_of d
        clear k1 r1 r0
        go_simp
      · exact (((h.mono (by simp)).setCell (p := ⟨w.heap.size, 0, none⟩) (.inl (by simp)) _).setCell (p := ⟨w.heap.size, 1, none⟩) (.inl (by simp)) _).setCell (p := ⟨w.heap.size, 2, none⟩) (.inl (by simp)) _
      · exact at_setCell (o := 2) (at_setCell (o := 1) (at_setCell (o := 0) (h.at r0 (by simp))))
      simp only [Act.put, List.setIfInBounds_toArray, List.set_cons_succ, List.set_cons_zero]
      refine stage_quiet 1 (by kernel_rfl) ?_
      simp only [List.take_succ_cons, List.take_zero, List.drop_succ_cons, List.drop_zero]
      repeat (go_big_quiet_step (fail))
      refine wpQuiet_nil ?_
      refine stage_nil ?_
      rintro w2 ⟨hm2, hr2⟩
      have c2 := cells_of hr2
      go_wp2_with fail
      refine bodyPost_ret (v := .tuple #[.agg (outC fs at' fs.length), .int .i64 (sizeR fs)]) ?_ rfl ⟨rfl, hm.then hm2 (by simp)⟩
      rw [hoH.out, hszH.out]
      simp [results, Try.results36, go_sem, c2]
end Go.Proofs.Ytkkjlioigdpacaa
