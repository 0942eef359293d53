/- Borrows: the definition's ledger: put. -/
import Derived.Test.YtappkiiihnaegaaBDef
import Derived.Test.YtappkiiihnaegaaScene
import Derived.Test.YtappkiiihnaegaaFloat
import Derived.Shelf.RegionOpenPlain
namespace Go
namespace Stg
section
variable {P : Program} {ops : Array Oper} {I : World → Prop}
/-- A call of a Go function of whose value the class tells. -/
theorem eff_call_any {Out : Prop} (f : FuncId) (args : Array Value) (V : Value → Prop) (C' : Value → World → Prop) {o : Oper} {C : World → Prop} {a : Act} {K : (World → Prop) → Act → Prop} {asz : Array Operand} {ts : Array TypeId}
    (hop : o.op = .call ⟨.value (.func f), asz, ts⟩) (hcall : ∀ (args : Array Value) w, (callFunc f args).run P w = .ok (.enter f args) w) (hargs : (asz.toList.map a.eval).toArray = args) (hV : ∃ v, V v)
    (hc : ∀ w, C w → Calls P f args w fun e w' => ∃ v, e = .returned v ∧ V v ∧ C' v w') (hI : ∀ v w, C' v w → I w)
    (h : ∀ v, V v → K (C' v) (a.put o.dst v)) : ∃ (V : Value → Prop) (R : Value → World → Prop), (∃ v, V v) ∧ (∀ w, C w → gives P o a w Out R) ∧ (∀ v w, R v w → V v ∧ I w) ∧ ∀ v, V v → K (R v) (a.put o.dst v) := by
  refine ⟨V, fun u w => V u ∧ C' u w, hV, fun w hC => ?_, fun u w h1 => ⟨h1.1, hI u w h1.2⟩, fun u hu => ?_⟩
  · unfold gives
    rw [run_go hop rfl hcall w, hargs]
    exact (hc w hC).mono fun e w' ⟨v, h1, h2, h3⟩ => by subst h1; exact ⟨h2, h3⟩
  · have e : (fun w => V u ∧ C' u w) = C' u := by
      funext w
      simp [hu]
    have h' := h u hu
    rw [← e] at h'
    exact h'
end
end Stg
end Go
namespace Go.Proofs.Ytappkiiihnaegaa
open Go Go.RowKit Go.Stg

/-- The definition's ledger. -/
def rledP (rb : Nat) (v : Value) (L : List Bor) : List Comp := [blockC rb (.cells #[v] 38 (0, 0)), rowC v L.length 25 4 (flat bcell L)]
def RLedAt (w : World) (rb : Nat) (L : List Bor) (f : List Nat) : Prop := ∃ v, Hold (rledP rb v L) w f
def rledC (rb : Nat) (L : List Bor) : Comp := ⟨fun w f => RLedAt w rb L f, fun ⟨v, h⟩ hm hT => ⟨v, h.keep hm hT⟩, fun ⟨_, h⟩ => h.lt⟩
theorem RLedAt.parts {w : World} {rb : Nat} {L : List Bor} {f : List Nat} (h : RLedAt w rb L f) : ∃ v, w.heap[rb]? = some (.cells #[v] 38 (0, 0)) ∧ w.ownsRow 0 25 4 v L.length (flat bcell L) ∧ rb ∈ f := by
  obtain ⟨v, f1, _, ⟨h1, e1⟩, ⟨f2, g2, ⟨h2, e2⟩, _, _, e3⟩, _, e4⟩ := h
  exact ⟨v, h1, h2, by rw [e4, e1]; simp⟩
theorem rled_of {w : World} {rb : Nat} {v : Value} {L : List Bor} (h : w.heap[rb]? = some (.cells #[v] 38 (0, 0))) (hr : w.ownsRow 0 25 4 v L.length (flat bcell L)) (hne : ∀ g, v.ownBlock = some g → g ≠ rb) :
    RLedAt w rb L ([rb] ++ (v.ownBlock.toList ++ [])) :=
  ⟨v, [rb], _, ⟨h, rfl⟩, ⟨_, [], ⟨hr, rfl⟩, rfl, by simp, rfl⟩, fun x hx hg => by
    rw [List.mem_singleton.1 hx] at hg
    exact hne rb (by simpa using hg) rfl, rfl⟩
/-- A new row takes the place of the old one. -/
theorem rled_set {w w1 : World} {rb : Nat} {L M : List Bor} {f : List Nat} {u val : Value} (h : RLedAt w rb L f) (hm : Mod [] w w1) (hr : w1.ownsRow w.heap.size 25 4 u M.length (flat bcell M)) :
    Takes (rledC rb M) val w f (.returned val) (w1.setCell ⟨rb, 0, none⟩ u) := by
  obtain ⟨v, h1, h2, h3⟩ := h.parts
  have hlt := lt_of h1
  have hs : Mod [rb] w1 (w1.setCell ⟨rb, 0, none⟩ u) := (Mod.refl [rb] w1).setCell (p := ⟨rb, 0, none⟩) (.inl (by simp)) u
  have hg : ∀ g, u.ownBlock = some g → g ≠ rb := fun g hg => by have := (hr.lt g hg).1; omega
  refine ⟨[rb] ++ (u.ownBlock.toList ++ []), rfl, rled_of (at_setCell (o := 0) (v := u) (hm.at h1 (by simp))) (row_mod (row_base hr (Nat.zero_le _)) hs (fun g h => by simpa using hg g h)) hg, (hm.mono (T := f) (by simp)).then hs (fun x hx => .inl (by rw [List.mem_singleton.1 hx]; exact h3)), fun x hx => ?_⟩
  simp only [List.append_nil, List.singleton_append, List.mem_cons, Option.mem_toList] at hx
  rcases hx with rfl | hx
  · exact .inl h3
  · exact .inr (hr.lt x hx).1
theorem exec_append {P : Program} {w w' : World} {o : Oper} {a : Act} {v u v' : Value} (s x : Operand) (t : TypeId) (ho : o.op = .call { callee := .builtin .append, args := #[s, x], argTypes := #[t, t] }) (hs : a.eval s = v) (hx : a.eval x = u)
    (hr : (Builtin.append_ #[t, t] o.type #[v, u]).run P w = .ok v' w') : (execOp a.eval o).run P w = .ok (.value v') w' := by
  unfold execOp
  simp [ho, resolve, invoke, builtin, hs, hx, hr, Result.andThen]
theorem row_slice {w : World} {base sz n : Nat} {e : TypeId} {v : Value} {xs : List Value} (h : w.ownsRow base e sz v n xs) : ∃ a l c, v = .slice a l c := by
  rcases row_cases h with ⟨rfl, _⟩ | ⟨g, cap, rfl, _⟩ <;> exact ⟨_, _, _, rfl⟩
/-- The row on the way: a borrow on its way to its place. -/
def mid (x : Bor) (M : List Bor) (j : Nat) : List Bor := M.take j ++ x :: M.drop j
theorem mid_len (x : Bor) (M : List Bor) {j : Nat} (hj : j ≤ M.length) : (mid x M j).length = M.length + 1 := by simp [mid]; omega
theorem mid_all (x : Bor) (M : List Bor) : mid x M M.length = M ++ [x] := by simp [mid]
theorem mid_at (x : Bor) (M : List Bor) {j : Nat} (hj : j < M.length) : (mid x M (j + 1))[j]? = some M[j] ∧ (mid x M (j + 1))[j + 1]? = some x := by
  unfold mid
  have hl : (M.take (j + 1)).length = j + 1 := by simp; omega
  constructor
  · rw [List.getElem?_append_left (by omega), List.getElem?_take_of_lt (by omega), List.getElem?_eq_getElem hj]
  · rw [List.getElem?_append_right (by omega), hl]; simp
theorem mid_swap (x : Bor) (M : List Bor) {j : Nat} (hj : j < M.length) : ((mid x M (j + 1)).set j x).set (j + 1) M[j] = mid x M j := by
  have h1 : M.take (j + 1) = M.take j ++ [M[j]] := snoc_take M hj
  have h2 : M.drop j = M[j] :: M.drop (j + 1) := by rw [List.getElem_cons_drop]
  have hl : (M.take j).length = j := by simp; omega
  unfold mid
  rw [h1, h2, List.append_assoc, List.set_append, if_neg (by omega), hl, Nat.sub_self]
  simp only [List.singleton_append, List.set_cons_zero]
  rw [List.set_append, if_neg (by omega), hl, show j + 1 - j = 1 by omega]
  rfl
theorem mid_cells {w : World} {base g cap : Nat} {x : Bor} {M : List Bor} {j : Nat} (hr : w.ownsRow base 25 4 (.slice (some ⟨g, 0, none⟩) (M.length + 1) cap) (M.length + 1) (flat bcell (mid x M (j + 1)))) (hj : j < M.length) :
    (w.cell? ⟨g, j * 4, none⟩ = some (.int .i64 M[j].1.1) ∧ w.cell? ⟨g, j * 4 + 1, none⟩ = some (.int .i64 M[j].1.2) ∧ w.cell? ⟨g, j * 4 + 2, none⟩ = some (.int .i64 M[j].2.1) ∧ w.cell? ⟨g, j * 4 + 3, none⟩ = some (.int .i64 M[j].2.2)) ∧
    w.cell? ⟨g, (j + 1) * 4, none⟩ = some (.int .i64 x.1.1) ∧ w.cell? ⟨g, (j + 1) * 4 + 1, none⟩ = some (.int .i64 x.1.2) ∧ w.cell? ⟨g, (j + 1) * 4 + 2, none⟩ = some (.int .i64 x.2.1) ∧ w.cell? ⟨g, (j + 1) * 4 + 3, none⟩ = some (.int .i64 x.2.2) := by
  have hl := mid_len x M (show j + 1 ≤ M.length by omega)
  obtain ⟨h1, h2⟩ := mid_at x M hj
  obtain ⟨l1, e1⟩ := List.getElem?_eq_some_iff.1 h1
  obtain ⟨l2, e2⟩ := List.getElem?_eq_some_iff.1 h2
  have r := fun k hk => row_cell bcell_len hr l1 hl (k := k) hk
  have r' := fun k hk => row_cell bcell_len hr l2 hl (k := k) hk
  rw [e1] at r
  rw [e2] at r'
  exact ⟨⟨r 0 (by omega), r 1 (by omega), r 2 (by omega), r 3 (by omega)⟩, r' 0 (by omega), r' 1 (by omega), r' 2 (by omega), r' 3 (by omega)⟩
theorem mid_stop {x : Bor} {M : List Bor} (hS : Srt M) {j : Nat} (hj : j < M.length) (hC : ∀ c ∈ M.drop (j + 1), klt x.1 c.1 = true) (hk : klt M[j].1 x.1 = true) : mid x M (j + 1) = ins x M := by
  have h1 : M.take (j + 1) = M.take j ++ [M[j]] := snoc_take M hj
  have e : M = (M.take j ++ [M[j]]) ++ M.drop (j + 1) := by rw [← h1, List.take_append_drop]
  have hS' : Srt (M.take j ++ [M[j]]) := by rw [← h1]; exact List.Pairwise.sublist (List.take_sublist _ _) hS
  have := ins_here (b := x) (a := M[j]) (A := M.take j) (C := M.drop (j + 1)) hS' hk hC
  rw [← e] at this
  rw [this]
  unfold mid
  rw [h1]
theorem mid_go {x : Bor} {M : List Bor} {j : Nat} (hj : j < M.length) (hC : ∀ c ∈ M.drop (j + 1), klt x.1 c.1 = true) (hk : klt M[j].1 x.1 = false) (hne : M[j].1 ≠ x.1) : ∀ c ∈ M.drop j, klt x.1 c.1 = true := by
  have h2 : M.drop j = M[j] :: M.drop (j + 1) := by rw [List.getElem_cons_drop]
  intro c hc
  rw [h2] at hc
  rcases List.mem_cons.1 hc with rfl | hc
  · exact klt_total hne hk
  · exact hC c hc
theorem cell_keep {w w' : World} {g o : Nat} {v : Value} (hm : Mod [] w w') (hlt : g < w.heap.size) (h : w.cell? ⟨g, o, none⟩ = some v) : w'.cell? ⟨g, o, none⟩ = some v :=
  (World.cell?_of_block (a := ⟨g, o, none⟩) (hm.block g hlt (by simp))).trans h
set_option maxHeartbeats 1600000 in
set_option maxRecDepth 10000 in
theorem rput_ok {w : World} {rb : Nat} {L : List Bor} {f : List Nat} (h : (rledC rb L).on w f) (hS : Srt L) (hl : L.length ≤ 1000000) (xo xh xm xc : Int) :
    Calls Try.prog 38 #[.pointer (some ⟨rb, 0, none⟩), .agg #[.int .i64 xo, .int .i64 xh, .int .i64 xm, .int .i64 xc]] w (Takes (rledC rb (putB L ((xo, xh), (xm, xc)))) (.tuple #[]) w f) := by
  obtain ⟨i5, hi5, hz0, hz1, hz2⟩ := info_parts info_bor
  obtain ⟨v, hb, hr, -⟩ := RLedAt.parts h
  have hm0 := (Mod.refl [] w).alloc (.cells #[.int .i64 xo, .int .i64 xh, .int .i64 xm, .int .i64 xc] 25)
  have hy := at_alloc w (.cells #[.int .i64 xo, .int .i64 xh, .int .i64 xm, .int .i64 xc] 25)
  have hyH := Lib.hid hy
  have hbH := Lib.hid (hm0.at hb (by simp))
  have hrH := Lib.hid (row_mod hr hm0 (by simp))
  have hm0H := Lib.hid hm0
  have hhH := Lib.hid h
  have hSH := Lib.hid (without_srt hS (xo, xh))
  have hfin : putB L ((xo, xh), (xm, xc)) = ins ((xo, xh), (xm, xc)) (without L (xo, xh)) := rfl
  rw [hfin]
  have hML : (without L (xo, xh)).length ≤ L.length := List.length_filter_le _ _
  have hwo := Lib.hid fun w' (h : Mod [] (w.alloc (.cells #[.int .i64 xo, .int .i64 xh, .int .i64 xm, .int .i64 xc] 25)) w') => rwithout_ok (h.at hbH.out (by simp)) (row_mod hrH.out h (by simp)) hl xo xh
  have hnodH := Lib.hid fun b (hb : b ∈ without L (xo, xh)) => (without_mem.1 hb).2
  generalize without L (xo, xh) = M at *
  clear h hb hr hS hm0 hy hfin
  go_enter Try.func38, Try.ntmps38
  go_wp2_with fail
  generalize hyb : w.heap.size = y at *
  generalize w.alloc (.cells #[.int .i64 xo, .int .i64 xh, .int .i64 xm, .int .i64 xc] 25) = W at *
  have q1 := GW.cells (S := []) hyH.out (by simp)
  refine wp_region_floatK 7 7 [0, 1, 2, 3, 4, 6, 5, 7, 8, 9] _ (fun w' => ∃ x : GW [] W, w' = x.1) (fun w' => Mod [] W w') (by kernel_rfl) rfl rfl (by kernel_rfl) (by kernel_rfl) rfl (by decide) (by kernel_rfl) (fun _ h => InGW.of h) (Mod.refl _ _).drew ?_
  simp only [picked, List.filterMap_cons, List.filterMap_nil, List.getElem?_cons_zero, List.getElem?_cons_succ]
  dsimp only [List.getElem_toArray, List.getElem_cons_succ, List.getElem_cons_zero]
  refine float_quiet 6 (by kernel_rfl) (by decide) ?_
  simp only [List.take_succ_cons, List.take_zero, List.drop_succ_cons, List.drop_zero, Nat.reduceAdd]
  repeat (go_big_quiet_step (fail))
  refine wpQuiet_nil ?_
  refine float_eff (by decide) rfl rfl ?A rfl (by simp) ?B
  case A =>
    refine eff_call_any 39 _ (fun u => ∃ a m c, u = .slice a m c) (fun u w' => Mod [] W w' ∧ w'.ownsRow W.heap.size 25 4 u M.length (flat bcell M)) rfl Try.call39 rfl ⟨_, none, 0, 0, rfl⟩ (fun w' h => (hwo.out w' h).mono fun e w'' ⟨u, he, hr, hm⟩ => ⟨u, he, row_slice hr, h.nil_then hm, row_base hr h.size⟩) (fun u w' h => InGW.of h.1) (fun u hu => ?_)
    obtain ⟨ua, um, uc, rfl⟩ := hu
    simp only [Act.put, List.setIfInBounds_toArray, List.set_cons_succ, List.set_cons_zero]
    refine float_here ?_
    refine stage_alloc (fun s => .slice (some ⟨s, 0, none⟩) 1 1) (.cells #[.int .i64 xo, .int .i64 xh, .int .i64 xm, .int .i64 xc] 25 (0, 0)) (fun s w' => (Mod [] W w' ∧ w'.ownsRow W.heap.size 25 4 (.slice ua um uc) M.length (flat bcell M)) ∧ w'.heap[s]? = some (.cells #[.int .i64 xo, .int .i64 xh, .int .i64 xm, .int .i64 xc] 25 (0, 0))) (by intro s s' h; simpa using h) rfl rfl (fun w' hw => ?_) (fun w' hw => ⟨⟨hw.1.alloc _, row_mod hw.2 ((Mod.refl [] w').alloc _) (by simp)⟩, at_alloc _ _⟩) (fun s w' h => InGW.of h.1.1) (fun s => ?_)
    · kernel_rfl
    simp only [Act.put, List.setIfInBounds_toArray, List.set_cons_succ, List.set_cons_zero]
    refine stage_any (fun u => ∃ g cap, u = .slice (some ⟨g, 0, none⟩) (M.length + 1) cap) (fun u w' => Mod [] W w' ∧ w'.ownsRow W.heap.size 25 4 u (M.length + 1) (flat bcell (M ++ [((xo, xh), (xm, xc))]))) rfl rfl ⟨_, 0, 0, rfl⟩ (fun w' hw => ?_) (fun u w' h => InGW.of h.1) (fun u hu => ?_)
    · obtain ⟨⟨g1, g2⟩, g5⟩ := hw
      obtain ⟨v', w3, hr, r2, r3, r4⟩ := run_append_row (P := Try.prog) w' 36 36 25 i5 (bv b0) 4 32 Try.underlying36 hi5 hz0 hz1 hz2 rfl (by decide) _ M.length (flat bcell M) (row_base g2 (Nat.zero_le _)) ⟨s, 0, none⟩ 1 1 (bcell ((xo, xh), (xm, xc))) rfl (fun j u hj => by rw [add_at, Nat.zero_add, cells_of g5]; simpa [bcell] using hj) (by simp [bcell, Value.oneCell']) (by unfold maxLen; omega) (by omega)
      obtain ⟨g', cap', rfl, _, _⟩ := row_pos r2 (by omega)
      rw [show flat bcell M ++ bcell ((xo, xh), (xm, xc)) = flat bcell (M ++ [((xo, xh), (xm, xc))]) by rw [flat_append, flat_one]] at r2
      refine ⟨_, w3, exec_append _ _ 36 rfl rfl rfl hr, ⟨g', cap', rfl⟩, g1.grown r3 (fun k hk => .inr (g2.lt k hk).1), row_all r2 fun x hx => ?_⟩
      rcases r4 x hx with h | h
      · exact (g2.lt x h).1
      · exact Nat.le_trans g1.size h
    obtain ⟨g, cap, rfl⟩ := hu
    simp only [Act.put, List.setIfInBounds_toArray, List.set_cons_succ, List.set_cons_zero]
    refine stage_quiet 1 (by kernel_rfl) ?_
    simp only [List.take_succ_cons, List.take_zero, List.drop_succ_cons, List.drop_zero]
    repeat (go_big_quiet_step (fail))
    refine wpQuiet_nil ?_
    refine stage_nil fun W2 hW2 => ?_
    obtain ⟨hm2, hr2⟩ := hW2
    rw [← mid_all] at hr2
    have hm2H := Lib.hid hm2
    have hr2H := Lib.hid hr2
    clear q1 hm2 hr2 hwo
    go_wp2_with fail
    go_loopw [5] (fun i wr => ∃ j : Nat, j ≤ M.length ∧ i = .int .i64 j ∧ Mod [] W wr ∧ wr.ownsRow W.heap.size 25 4 (.slice (some ⟨g, 0, none⟩) (M.length + 1) cap) (M.length + 1) (flat bcell (mid ((xo, xh), (xm, xc)) M j)) ∧ ∀ c ∈ M.drop j, klt (xo, xh) c.1 = true) (fun i _ => (intOf i).toNat)
    case atStart => exact ⟨M.length, Nat.le_refl _, by go_num, hm2H.out, hr2H.out, by simp⟩
    case round =>
      obtain ⟨j, hj, rfl, hm, hr, hC⟩ := hrel
      have hmH := Lib.hid hm
      have hrr := Lib.hid hr
      have hCH := Lib.hid hC
      clear hm hr hC
      by_cases h0 : 0 < j
      · obtain ⟨j, rfl⟩ : ∃ k, j = k + 1 := ⟨j - 1, by omega⟩
        have hjm : j < M.length := by omega
        obtain ⟨⟨c0, c1, c2, c3⟩, d0, d1, d2, d3⟩ := mid_cells hrr.out hjm
        have hstop := Lib.hid (mid_stop (x := ((xo, xh), (xm, xc))) hSH.out hjm hCH.out)
        have hgo := Lib.hid fun (h : klt M[j].1 (xo, xh) = false) => mid_go (x := ((xo, xh), (xm, xc))) hjm hCH.out h (hnodH.out M[j] (List.getElem_mem hjm))
        have hsw := Lib.hid (mid_swap ((xo, xh), (xm, xc)) M hjm)
        have hgl := (hrr.out.lt g rfl).2
        have hnj := Lib.hid (hnodH.out M[j] (List.getElem_mem hjm))
        generalize M[j] = a at *
        obtain ⟨⟨ao, ah⟩, am, ac⟩ := a
        have e : ((j + 1 : Nat) : Int) = (j : Int) + 1 := by simp
        rw [e]
        have k0 := GW.cell1 (S := []) c0 hgl (by simp)
        have k1 := GW.cell1 (S := []) c1 hgl (by simp)
        have k4 := GW.cell1 (S := []) d0 hgl (by simp)
        have k5 := GW.cell1 (S := []) d1 hgl (by simp)
        have hcH := Lib.hid (And.intro (And.intro c0 (And.intro c1 (And.intro c2 c3))) (And.intro d0 (And.intro d1 (And.intro d2 d3))))
        clear c0 c1 c2 c3 d0 d1 d2 d3 hgl e
        by_cases e1 : ao < xo
        · have hk : klt (ao, ah) (xo, xh) = true := by rw [klt_iff]; exact .inl e1
          go_wp2_with fail
          refine wp_region_pure (by kernel_rfl) (by kernel_rfl) ?_
          refine stage_quiet 40 (by kernel_rfl) ?_
          simp only [List.take_succ_cons, List.take_zero, List.drop_succ_cons, List.drop_zero]
          repeat (go_big_quiet_step (fail))
          refine wpQuiet_nil ?_
          refine stage_nil fun W3 hm3 => ?_
          have hrF := row_mod hrr.out hm3 (by simp)
          have hst := hstop.out hk
          rw [hst] at hrF
          have hm4 := Lib.hid (hmH.out.nil_then hm3)
          clear k0 k1 k4 k5 hst hm3 hk
          have hb2 := (hm4.out).at hbH.out (by simp)
          have hcb := cells_of hb2
          have hfb := frozen_of hb2
          have hrFH := Lib.hid hrF
          have hlen : (ins ((xo, xh), (xm, xc)) M).length = M.length + 1 := (ins_perm _ M).length_eq
          clear hb2 hrF
          go_wp2_with fail
          go_end0
          refine rled_set hhH.out (hm0H.out.nil_then (hm4.out)) ?_
          rw [hlen]
          exact row_base hrFH.out (by rw [hyb]; have := hm0H.out.size; omega)
        · by_cases e2 : ao = xo
          · obtain rfl : xo = ao := e2.symm
            have z : (xo == xo) = true := by simp
            by_cases e3 : ah < xh
            · have hk : klt (xo, ah) (xo, xh) = true := by rw [klt_iff]; exact .inr ⟨rfl, e3⟩
              go_wp2_with fail
              refine wp_region_pure (by kernel_rfl) (by kernel_rfl) ?_
              refine stage_quiet 40 (by kernel_rfl) ?_
              simp only [List.take_succ_cons, List.take_zero, List.drop_succ_cons, List.drop_zero]
              repeat (go_big_quiet_step (fail))
              refine wpQuiet_nil ?_
              refine stage_nil fun W3 hm3 => ?_
              have hrF := row_mod hrr.out hm3 (by simp)
              have hst := hstop.out hk
              rw [hst] at hrF
              have hm4 := Lib.hid (hmH.out.nil_then hm3)
              clear k0 k1 k4 k5 hst hm3 hk
              have hb2 := (hm4.out).at hbH.out (by simp)
              have hcb := cells_of hb2
              have hfb := frozen_of hb2
              have hrFH := Lib.hid hrF
              have hlen : (ins ((xo, xh), (xm, xc)) M).length = M.length + 1 := (ins_perm _ M).length_eq
              clear hb2 hrF
              go_wp2_with fail
              go_end0
              refine rled_set hhH.out (hm0H.out.nil_then (hm4.out)) ?_
              rw [hlen]
              exact row_base hrFH.out (by rw [hyb]; have := hm0H.out.size; omega)
            · have hk : klt (xo, ah) (xo, xh) = false := by simp [klt, e3]
              have z1 : decide (ah < xh) = false := by simpa using e3
              go_wp2_with fail
              refine wp_region_pure (by kernel_rfl) (by kernel_rfl) ?_
              refine stage_quiet 40 (by kernel_rfl) ?_
              simp only [List.take_succ_cons, List.take_zero, List.drop_succ_cons, List.drop_zero]
              repeat (go_big_quiet_step (fail))
              refine wpQuiet_nil ?_
              refine stage_nil fun W3 hm3 => ?_
              have hgo' := Lib.hid (hgo.out hk)
              have hgl := (hrr.out.lt g rfl).2
              obtain ⟨⟨c0, c1, c2, c3⟩, d0, d1, d2, d3⟩ := hcH.out
              have hm4 := Lib.hid (hmH.out.nil_then hm3)
              have hr3 := row_mod hrr.out hm3 (by simp)
              have hr3H := Lib.hid hr3
              have hf : ∀ o, W3.drew.frozen? ⟨g, o, none⟩ = false := fun o => hr3.frozenAt o
              have hf' : ∀ o, W3.frozen? ⟨g, o, none⟩ = false := fun o => hr3.frozenAt o
              have c0' : W3.cell? ⟨g, j * 4, none⟩ = some (.int .i64 xo) := cell_keep hm3 hgl c0
              have c0 : W3.drew.cell? ⟨g, j * 4, none⟩ = some (.int .i64 xo) := cell_keep hm3.drew hgl c0
              have c1' : W3.cell? ⟨g, j * 4 + 1, none⟩ = some (.int .i64 ah) := cell_keep hm3 hgl c1
              have c1 : W3.drew.cell? ⟨g, j * 4 + 1, none⟩ = some (.int .i64 ah) := cell_keep hm3.drew hgl c1
              have c2' : W3.cell? ⟨g, j * 4 + 2, none⟩ = some (.int .i64 am) := cell_keep hm3 hgl c2
              have c2 : W3.drew.cell? ⟨g, j * 4 + 2, none⟩ = some (.int .i64 am) := cell_keep hm3.drew hgl c2
              have c3' : W3.cell? ⟨g, j * 4 + 3, none⟩ = some (.int .i64 ac) := cell_keep hm3 hgl c3
              have c3 : W3.drew.cell? ⟨g, j * 4 + 3, none⟩ = some (.int .i64 ac) := cell_keep hm3.drew hgl c3
              have d0' : W3.cell? ⟨g, (j + 1) * 4, none⟩ = some (.int .i64 xo) := cell_keep hm3 hgl d0
              have d0 : W3.drew.cell? ⟨g, (j + 1) * 4, none⟩ = some (.int .i64 xo) := cell_keep hm3.drew hgl d0
              have d1' : W3.cell? ⟨g, (j + 1) * 4 + 1, none⟩ = some (.int .i64 xh) := cell_keep hm3 hgl d1
              have d1 : W3.drew.cell? ⟨g, (j + 1) * 4 + 1, none⟩ = some (.int .i64 xh) := cell_keep hm3.drew hgl d1
              have d2' : W3.cell? ⟨g, (j + 1) * 4 + 2, none⟩ = some (.int .i64 xm) := cell_keep hm3 hgl d2
              have d2 : W3.drew.cell? ⟨g, (j + 1) * 4 + 2, none⟩ = some (.int .i64 xm) := cell_keep hm3.drew hgl d2
              have d3' : W3.cell? ⟨g, (j + 1) * 4 + 3, none⟩ = some (.int .i64 xc) := cell_keep hm3 hgl d3
              have d3 : W3.drew.cell? ⟨g, (j + 1) * 4 + 3, none⟩ = some (.int .i64 xc) := cell_keep hm3.drew hgl d3
              clear k0 k1 k4 k5 hm3 hk hr3
              go_wp2_with fail
              have hmx : Try.prog.follows .mixedOrders = true := by kernel_rfl
              go_big_region_o
              clear c0 c1 c2 c3 d0 d1 d2 d3 c0' c1' c2' c3' d0' d1' d2' d3' hf hf' hmx
              have hge := (hrr.out.lt g rfl).1
              have hl2 := mid_len ((xo, xh), (xm, xc)) M (show j + 1 ≤ M.length by omega)
              have p1 := row_put bcell_len hr3H.out (j := j) (by omega) (by omega) ((xo, xh), (xm, xc))
              have p2 := row_put bcell_len p1 (j := j + 1) (by rw [List.length_set]; omega) (by omega) ((xo, ah), (am, ac))
              rw [hsw.out] at p2
              have p3 := Lib.hid (row_mod p2 (Mod.refl [] _).drew (by simp))
              have m3 := Lib.hid (Mod.setCells (.inr hge) (bcell ((xo, ah), (am, ac))) ((j + 1) * 4) _ (Mod.setCells (.inr hge) (bcell ((xo, xh), (xm, xc))) (j * 4) W3 hm4.out)).drew
              clear p1 p2 hl2
              go_wp2_with fail
              go_roundw
              case rel => exact ⟨j, by omega, by go_num, m3.out, p3.out, hgo'.out⟩
              case measure => simp [intOf]
          · have z : (ao == xo) = false := by simpa using e2
            have hk : klt (ao, ah) (xo, xh) = false := by simp [klt, e1, e2]
            have z1 : decide (ao < xo) = false := by simpa using e1
            go_wp2_with fail
            refine wp_region_pure (by kernel_rfl) (by kernel_rfl) ?_
            refine stage_quiet 40 (by kernel_rfl) ?_
            simp only [List.take_succ_cons, List.take_zero, List.drop_succ_cons, List.drop_zero]
            repeat (go_big_quiet_step (fail))
            refine wpQuiet_nil ?_
            refine stage_nil fun W3 hm3 => ?_
            have hgo' := Lib.hid (hgo.out hk)
            have hgl := (hrr.out.lt g rfl).2
            obtain ⟨⟨c0, c1, c2, c3⟩, d0, d1, d2, d3⟩ := hcH.out
            have hm4 := Lib.hid (hmH.out.nil_then hm3)
            have hr3 := row_mod hrr.out hm3 (by simp)
            have hr3H := Lib.hid hr3
            have hf : ∀ o, W3.drew.frozen? ⟨g, o, none⟩ = false := fun o => hr3.frozenAt o
            have hf' : ∀ o, W3.frozen? ⟨g, o, none⟩ = false := fun o => hr3.frozenAt o
            have c0' : W3.cell? ⟨g, j * 4, none⟩ = some (.int .i64 ao) := cell_keep hm3 hgl c0
            have c0 : W3.drew.cell? ⟨g, j * 4, none⟩ = some (.int .i64 ao) := cell_keep hm3.drew hgl c0
            have c1' : W3.cell? ⟨g, j * 4 + 1, none⟩ = some (.int .i64 ah) := cell_keep hm3 hgl c1
            have c1 : W3.drew.cell? ⟨g, j * 4 + 1, none⟩ = some (.int .i64 ah) := cell_keep hm3.drew hgl c1
            have c2' : W3.cell? ⟨g, j * 4 + 2, none⟩ = some (.int .i64 am) := cell_keep hm3 hgl c2
            have c2 : W3.drew.cell? ⟨g, j * 4 + 2, none⟩ = some (.int .i64 am) := cell_keep hm3.drew hgl c2
            have c3' : W3.cell? ⟨g, j * 4 + 3, none⟩ = some (.int .i64 ac) := cell_keep hm3 hgl c3
            have c3 : W3.drew.cell? ⟨g, j * 4 + 3, none⟩ = some (.int .i64 ac) := cell_keep hm3.drew hgl c3
            have d0' : W3.cell? ⟨g, (j + 1) * 4, none⟩ = some (.int .i64 xo) := cell_keep hm3 hgl d0
            have d0 : W3.drew.cell? ⟨g, (j + 1) * 4, none⟩ = some (.int .i64 xo) := cell_keep hm3.drew hgl d0
            have d1' : W3.cell? ⟨g, (j + 1) * 4 + 1, none⟩ = some (.int .i64 xh) := cell_keep hm3 hgl d1
            have d1 : W3.drew.cell? ⟨g, (j + 1) * 4 + 1, none⟩ = some (.int .i64 xh) := cell_keep hm3.drew hgl d1
            have d2' : W3.cell? ⟨g, (j + 1) * 4 + 2, none⟩ = some (.int .i64 xm) := cell_keep hm3 hgl d2
            have d2 : W3.drew.cell? ⟨g, (j + 1) * 4 + 2, none⟩ = some (.int .i64 xm) := cell_keep hm3.drew hgl d2
            have d3' : W3.cell? ⟨g, (j + 1) * 4 + 3, none⟩ = some (.int .i64 xc) := cell_keep hm3 hgl d3
            have d3 : W3.drew.cell? ⟨g, (j + 1) * 4 + 3, none⟩ = some (.int .i64 xc) := cell_keep hm3.drew hgl d3
            clear k0 k1 k4 k5 hm3 hk hr3
            go_wp2_with fail
            have hmx : Try.prog.follows .mixedOrders = true := by kernel_rfl
            go_big_region_o
            clear c0 c1 c2 c3 d0 d1 d2 d3 c0' c1' c2' c3' d0' d1' d2' d3' hf hf' hmx
            have hge := (hrr.out.lt g rfl).1
            have hl2 := mid_len ((xo, xh), (xm, xc)) M (show j + 1 ≤ M.length by omega)
            have p1 := row_put bcell_len hr3H.out (j := j) (by omega) (by omega) ((xo, xh), (xm, xc))
            have p2 := row_put bcell_len p1 (j := j + 1) (by rw [List.length_set]; omega) (by omega) ((ao, ah), (am, ac))
            rw [hsw.out] at p2
            have p3 := Lib.hid (row_mod p2 (Mod.refl [] _).drew (by simp))
            have m3 := Lib.hid (Mod.setCells (.inr hge) (bcell ((ao, ah), (am, ac))) ((j + 1) * 4) _ (Mod.setCells (.inr hge) (bcell ((xo, xh), (xm, xc))) (j * 4) W3 hm4.out)).drew
            clear p1 p2 hl2
            go_wp2_with fail
            go_roundw
            case rel => exact ⟨j, by omega, by go_num, m3.out, p3.out, hgo'.out⟩
            case measure => simp [intOf]
      · obtain rfl : j = 0 := by omega
        have hin : mid ((xo, xh), (xm, xc)) M 0 = ins ((xo, xh), (xm, xc)) M := (ins_split _ [] M (by simp) (by simpa using hCH.out)).symm
        have hrF := hrr.out
        rw [hin] at hrF
        clear hin
        have hb2 := (hmH.out).at hbH.out (by simp)
        have hcb := cells_of hb2
        have hfb := frozen_of hb2
        have hrFH := Lib.hid hrF
        have hlen : (ins ((xo, xh), (xm, xc)) M).length = M.length + 1 := (ins_perm _ M).length_eq
        clear hb2 hrF
        go_wp2_with fail
        go_end0
        refine rled_set hhH.out (hm0H.out.nil_then (hmH.out)) ?_
        rw [hlen]
        exact row_base hrFH.out (by rw [hyb]; have := hm0H.out.size; omega)
  case B =>
    simp only [Nat.reduceSub, List.eraseIdx_cons_succ, List.eraseIdx_cons_zero]
    refine stage_alloc (fun s => .slice (some ⟨s, 0, none⟩) 1 1) (.cells #[.int .i64 xo, .int .i64 xh, .int .i64 xm, .int .i64 xc] 25 (0, 0)) (fun s w' => Mod [] W w' ∧ w'.heap[s]? = some (.cells #[.int .i64 xo, .int .i64 xh, .int .i64 xm, .int .i64 xc] 25 (0, 0))) (by intro s s' h; simpa using h) rfl rfl (fun w' hw => ?_) (fun w' hw => ⟨hw.alloc _, at_alloc _ _⟩) (fun s w' h => InGW.of h.1) (fun s => ?_)
    · kernel_rfl
    simp only [Act.put, List.setIfInBounds_toArray, List.set_cons_succ, List.set_cons_zero]
    refine stage_call_any 39 _ (fun u => ∃ a m c, u = .slice a m c) (fun u w' => (Mod [] W w' ∧ w'.ownsRow W.heap.size 25 4 u M.length (flat bcell M)) ∧ w'.heap[s]? = some (.cells #[.int .i64 xo, .int .i64 xh, .int .i64 xm, .int .i64 xc] 25 (0, 0))) rfl Try.call39 rfl rfl ⟨_, none, 0, 0, rfl⟩ (fun w' h => (hwo.out w' h.1).mono fun e w'' ⟨u, he, hr, hm⟩ => ⟨u, he, row_slice hr, ⟨h.1.nil_then hm, row_base hr h.1.size⟩, hm.at h.2 (by simp)⟩) (fun u w' h => InGW.of h.1.1) (fun u hu => ?_)
    obtain ⟨ua, um, uc, rfl⟩ := hu
    simp only [Act.put, List.setIfInBounds_toArray, List.set_cons_succ, List.set_cons_zero]
    refine stage_any (fun u => ∃ g cap, u = .slice (some ⟨g, 0, none⟩) (M.length + 1) cap) (fun u w' => Mod [] W w' ∧ w'.ownsRow W.heap.size 25 4 u (M.length + 1) (flat bcell (M ++ [((xo, xh), (xm, xc))]))) rfl rfl ⟨_, 0, 0, rfl⟩ (fun w' hw => ?_) (fun u w' h => InGW.of h.1) (fun u hu => ?_)
    · obtain ⟨⟨g1, g2⟩, g5⟩ := hw
      obtain ⟨v', w3, hr, r2, r3, r4⟩ := run_append_row (P := Try.prog) w' 36 36 25 i5 (bv b0) 4 32 Try.underlying36 hi5 hz0 hz1 hz2 rfl (by decide) _ M.length (flat bcell M) (row_base g2 (Nat.zero_le _)) ⟨s, 0, none⟩ 1 1 (bcell ((xo, xh), (xm, xc))) rfl (fun j u hj => by rw [add_at, Nat.zero_add, cells_of g5]; simpa [bcell] using hj) (by simp [bcell, Value.oneCell']) (by unfold maxLen; omega) (by omega)
      obtain ⟨g', cap', rfl, _, _⟩ := row_pos r2 (by omega)
      rw [show flat bcell M ++ bcell ((xo, xh), (xm, xc)) = flat bcell (M ++ [((xo, xh), (xm, xc))]) by rw [flat_append, flat_one]] at r2
      refine ⟨_, w3, exec_append _ _ 36 rfl rfl rfl hr, ⟨g', cap', rfl⟩, g1.grown r3 (fun k hk => .inr (g2.lt k hk).1), row_all r2 fun x hx => ?_⟩
      rcases r4 x hx with h | h
      · exact (g2.lt x h).1
      · exact Nat.le_trans g1.size h
    obtain ⟨g, cap, rfl⟩ := hu
    simp only [Act.put, List.setIfInBounds_toArray, List.set_cons_succ, List.set_cons_zero]
    refine stage_quiet 31 (by kernel_rfl) ?_
    simp only [List.take_succ_cons, List.take_zero, List.drop_succ_cons, List.drop_zero]
    repeat (go_big_quiet_step (fail))
    refine wpQuiet_nil ?_
    refine stage_nil fun W2 hW2 => ?_
    obtain ⟨hm2, hr2⟩ := hW2
    rw [← mid_all] at hr2
    have hm2H := Lib.hid hm2
    have hr2H := Lib.hid hr2
    clear q1 hm2 hr2 hwo
    go_wp2_with fail
    go_loopw [5] (fun i wr => ∃ j : Nat, j ≤ M.length ∧ i = .int .i64 j ∧ Mod [] W wr ∧ wr.ownsRow W.heap.size 25 4 (.slice (some ⟨g, 0, none⟩) (M.length + 1) cap) (M.length + 1) (flat bcell (mid ((xo, xh), (xm, xc)) M j)) ∧ ∀ c ∈ M.drop j, klt (xo, xh) c.1 = true) (fun i _ => (intOf i).toNat)
    case atStart => exact ⟨M.length, Nat.le_refl _, by go_num, hm2H.out, hr2H.out, by simp⟩
    case round =>
      obtain ⟨j, hj, rfl, hm, hr, hC⟩ := hrel
      have hmH := Lib.hid hm
      have hrr := Lib.hid hr
      have hCH := Lib.hid hC
      clear hm hr hC
      by_cases h0 : 0 < j
      · obtain ⟨j, rfl⟩ : ∃ k, j = k + 1 := ⟨j - 1, by omega⟩
        have hjm : j < M.length := by omega
        obtain ⟨⟨c0, c1, c2, c3⟩, d0, d1, d2, d3⟩ := mid_cells hrr.out hjm
        have hstop := Lib.hid (mid_stop (x := ((xo, xh), (xm, xc))) hSH.out hjm hCH.out)
        have hgo := Lib.hid fun (h : klt M[j].1 (xo, xh) = false) => mid_go (x := ((xo, xh), (xm, xc))) hjm hCH.out h (hnodH.out M[j] (List.getElem_mem hjm))
        have hsw := Lib.hid (mid_swap ((xo, xh), (xm, xc)) M hjm)
        have hgl := (hrr.out.lt g rfl).2
        have hnj := Lib.hid (hnodH.out M[j] (List.getElem_mem hjm))
        generalize M[j] = a at *
        obtain ⟨⟨ao, ah⟩, am, ac⟩ := a
        have e : ((j + 1 : Nat) : Int) = (j : Int) + 1 := by simp
        rw [e]
        have k0 := GW.cell1 (S := []) c0 hgl (by simp)
        have k1 := GW.cell1 (S := []) c1 hgl (by simp)
        have k4 := GW.cell1 (S := []) d0 hgl (by simp)
        have k5 := GW.cell1 (S := []) d1 hgl (by simp)
        have hcH := Lib.hid (And.intro (And.intro c0 (And.intro c1 (And.intro c2 c3))) (And.intro d0 (And.intro d1 (And.intro d2 d3))))
        clear c0 c1 c2 c3 d0 d1 d2 d3 hgl e
        by_cases e1 : ao < xo
        · have hk : klt (ao, ah) (xo, xh) = true := by rw [klt_iff]; exact .inl e1
          go_wp2_with fail
          refine wp_region_pure (by kernel_rfl) (by kernel_rfl) ?_
          refine stage_quiet 40 (by kernel_rfl) ?_
          simp only [List.take_succ_cons, List.take_zero, List.drop_succ_cons, List.drop_zero]
          repeat (go_big_quiet_step (fail))
          refine wpQuiet_nil ?_
          refine stage_nil fun W3 hm3 => ?_
          have hrF := row_mod hrr.out hm3 (by simp)
          have hst := hstop.out hk
          rw [hst] at hrF
          have hm4 := Lib.hid (hmH.out.nil_then hm3)
          clear k0 k1 k4 k5 hst hm3 hk
          have hb2 := (hm4.out).at hbH.out (by simp)
          have hcb := cells_of hb2
          have hfb := frozen_of hb2
          have hrFH := Lib.hid hrF
          have hlen : (ins ((xo, xh), (xm, xc)) M).length = M.length + 1 := (ins_perm _ M).length_eq
          clear hb2 hrF
          go_wp2_with fail
          go_end0
          refine rled_set hhH.out (hm0H.out.nil_then (hm4.out)) ?_
          rw [hlen]
          exact row_base hrFH.out (by rw [hyb]; have := hm0H.out.size; omega)
        · by_cases e2 : ao = xo
          · obtain rfl : xo = ao := e2.symm
            have z : (xo == xo) = true := by simp
            by_cases e3 : ah < xh
            · have hk : klt (xo, ah) (xo, xh) = true := by rw [klt_iff]; exact .inr ⟨rfl, e3⟩
              go_wp2_with fail
              refine wp_region_pure (by kernel_rfl) (by kernel_rfl) ?_
              refine stage_quiet 40 (by kernel_rfl) ?_
              simp only [List.take_succ_cons, List.take_zero, List.drop_succ_cons, List.drop_zero]
              repeat (go_big_quiet_step (fail))
              refine wpQuiet_nil ?_
              refine stage_nil fun W3 hm3 => ?_
              have hrF := row_mod hrr.out hm3 (by simp)
              have hst := hstop.out hk
              rw [hst] at hrF
              have hm4 := Lib.hid (hmH.out.nil_then hm3)
              clear k0 k1 k4 k5 hst hm3 hk
              have hb2 := (hm4.out).at hbH.out (by simp)
              have hcb := cells_of hb2
              have hfb := frozen_of hb2
              have hrFH := Lib.hid hrF
              have hlen : (ins ((xo, xh), (xm, xc)) M).length = M.length + 1 := (ins_perm _ M).length_eq
              clear hb2 hrF
              go_wp2_with fail
              go_end0
              refine rled_set hhH.out (hm0H.out.nil_then (hm4.out)) ?_
              rw [hlen]
              exact row_base hrFH.out (by rw [hyb]; have := hm0H.out.size; omega)
            · have hk : klt (xo, ah) (xo, xh) = false := by simp [klt, e3]
              have z1 : decide (ah < xh) = false := by simpa using e3
              go_wp2_with fail
              refine wp_region_pure (by kernel_rfl) (by kernel_rfl) ?_
              refine stage_quiet 40 (by kernel_rfl) ?_
              simp only [List.take_succ_cons, List.take_zero, List.drop_succ_cons, List.drop_zero]
              repeat (go_big_quiet_step (fail))
              refine wpQuiet_nil ?_
              refine stage_nil fun W3 hm3 => ?_
              have hgo' := Lib.hid (hgo.out hk)
              have hgl := (hrr.out.lt g rfl).2
              obtain ⟨⟨c0, c1, c2, c3⟩, d0, d1, d2, d3⟩ := hcH.out
              have hm4 := Lib.hid (hmH.out.nil_then hm3)
              have hr3 := row_mod hrr.out hm3 (by simp)
              have hr3H := Lib.hid hr3
              have hf : ∀ o, W3.drew.frozen? ⟨g, o, none⟩ = false := fun o => hr3.frozenAt o
              have hf' : ∀ o, W3.frozen? ⟨g, o, none⟩ = false := fun o => hr3.frozenAt o
              have c0' : W3.cell? ⟨g, j * 4, none⟩ = some (.int .i64 xo) := cell_keep hm3 hgl c0
              have c0 : W3.drew.cell? ⟨g, j * 4, none⟩ = some (.int .i64 xo) := cell_keep hm3.drew hgl c0
              have c1' : W3.cell? ⟨g, j * 4 + 1, none⟩ = some (.int .i64 ah) := cell_keep hm3 hgl c1
              have c1 : W3.drew.cell? ⟨g, j * 4 + 1, none⟩ = some (.int .i64 ah) := cell_keep hm3.drew hgl c1
              have c2' : W3.cell? ⟨g, j * 4 + 2, none⟩ = some (.int .i64 am) := cell_keep hm3 hgl c2
              have c2 : W3.drew.cell? ⟨g, j * 4 + 2, none⟩ = some (.int .i64 am) := cell_keep hm3.drew hgl c2
              have c3' : W3.cell? ⟨g, j * 4 + 3, none⟩ = some (.int .i64 ac) := cell_keep hm3 hgl c3
              have c3 : W3.drew.cell? ⟨g, j * 4 + 3, none⟩ = some (.int .i64 ac) := cell_keep hm3.drew hgl c3
              have d0' : W3.cell? ⟨g, (j + 1) * 4, none⟩ = some (.int .i64 xo) := cell_keep hm3 hgl d0
              have d0 : W3.drew.cell? ⟨g, (j + 1) * 4, none⟩ = some (.int .i64 xo) := cell_keep hm3.drew hgl d0
              have d1' : W3.cell? ⟨g, (j + 1) * 4 + 1, none⟩ = some (.int .i64 xh) := cell_keep hm3 hgl d1
              have d1 : W3.drew.cell? ⟨g, (j + 1) * 4 + 1, none⟩ = some (.int .i64 xh) := cell_keep hm3.drew hgl d1
              have d2' : W3.cell? ⟨g, (j + 1) * 4 + 2, none⟩ = some (.int .i64 xm) := cell_keep hm3 hgl d2
              have d2 : W3.drew.cell? ⟨g, (j + 1) * 4 + 2, none⟩ = some (.int .i64 xm) := cell_keep hm3.drew hgl d2
              have d3' : W3.cell? ⟨g, (j + 1) * 4 + 3, none⟩ = some (.int .i64 xc) := cell_keep hm3 hgl d3
              have d3 : W3.drew.cell? ⟨g, (j + 1) * 4 + 3, none⟩ = some (.int .i64 xc) := cell_keep hm3.drew hgl d3
              clear k0 k1 k4 k5 hm3 hk hr3
              go_wp2_with fail
              have hmx : Try.prog.follows .mixedOrders = true := by kernel_rfl
              go_big_region_o
              clear c0 c1 c2 c3 d0 d1 d2 d3 c0' c1' c2' c3' d0' d1' d2' d3' hf hf' hmx
              have hge := (hrr.out.lt g rfl).1
              have hl2 := mid_len ((xo, xh), (xm, xc)) M (show j + 1 ≤ M.length by omega)
              have p1 := row_put bcell_len hr3H.out (j := j) (by omega) (by omega) ((xo, xh), (xm, xc))
              have p2 := row_put bcell_len p1 (j := j + 1) (by rw [List.length_set]; omega) (by omega) ((xo, ah), (am, ac))
              rw [hsw.out] at p2
              have p3 := Lib.hid (row_mod p2 (Mod.refl [] _).drew (by simp))
              have m3 := Lib.hid (Mod.setCells (.inr hge) (bcell ((xo, ah), (am, ac))) ((j + 1) * 4) _ (Mod.setCells (.inr hge) (bcell ((xo, xh), (xm, xc))) (j * 4) W3 hm4.out)).drew
              clear p1 p2 hl2
              go_wp2_with fail
              go_roundw
              case rel => exact ⟨j, by omega, by go_num, m3.out, p3.out, hgo'.out⟩
              case measure => simp [intOf]
          · have z : (ao == xo) = false := by simpa using e2
            have hk : klt (ao, ah) (xo, xh) = false := by simp [klt, e1, e2]
            have z1 : decide (ao < xo) = false := by simpa using e1
            go_wp2_with fail
            refine wp_region_pure (by kernel_rfl) (by kernel_rfl) ?_
            refine stage_quiet 40 (by kernel_rfl) ?_
            simp only [List.take_succ_cons, List.take_zero, List.drop_succ_cons, List.drop_zero]
            repeat (go_big_quiet_step (fail))
            refine wpQuiet_nil ?_
            refine stage_nil fun W3 hm3 => ?_
            have hgo' := Lib.hid (hgo.out hk)
            have hgl := (hrr.out.lt g rfl).2
            obtain ⟨⟨c0, c1, c2, c3⟩, d0, d1, d2, d3⟩ := hcH.out
            have hm4 := Lib.hid (hmH.out.nil_then hm3)
            have hr3 := row_mod hrr.out hm3 (by simp)
            have hr3H := Lib.hid hr3
            have hf : ∀ o, W3.drew.frozen? ⟨g, o, none⟩ = false := fun o => hr3.frozenAt o
            have hf' : ∀ o, W3.frozen? ⟨g, o, none⟩ = false := fun o => hr3.frozenAt o
            have c0' : W3.cell? ⟨g, j * 4, none⟩ = some (.int .i64 ao) := cell_keep hm3 hgl c0
            have c0 : W3.drew.cell? ⟨g, j * 4, none⟩ = some (.int .i64 ao) := cell_keep hm3.drew hgl c0
            have c1' : W3.cell? ⟨g, j * 4 + 1, none⟩ = some (.int .i64 ah) := cell_keep hm3 hgl c1
            have c1 : W3.drew.cell? ⟨g, j * 4 + 1, none⟩ = some (.int .i64 ah) := cell_keep hm3.drew hgl c1
            have c2' : W3.cell? ⟨g, j * 4 + 2, none⟩ = some (.int .i64 am) := cell_keep hm3 hgl c2
            have c2 : W3.drew.cell? ⟨g, j * 4 + 2, none⟩ = some (.int .i64 am) := cell_keep hm3.drew hgl c2
            have c3' : W3.cell? ⟨g, j * 4 + 3, none⟩ = some (.int .i64 ac) := cell_keep hm3 hgl c3
            have c3 : W3.drew.cell? ⟨g, j * 4 + 3, none⟩ = some (.int .i64 ac) := cell_keep hm3.drew hgl c3
            have d0' : W3.cell? ⟨g, (j + 1) * 4, none⟩ = some (.int .i64 xo) := cell_keep hm3 hgl d0
            have d0 : W3.drew.cell? ⟨g, (j + 1) * 4, none⟩ = some (.int .i64 xo) := cell_keep hm3.drew hgl d0
            have d1' : W3.cell? ⟨g, (j + 1) * 4 + 1, none⟩ = some (.int .i64 xh) := cell_keep hm3 hgl d1
            have d1 : W3.drew.cell? ⟨g, (j + 1) * 4 + 1, none⟩ = some (.int .i64 xh) := cell_keep hm3.drew hgl d1
            have d2' : W3.cell? ⟨g, (j + 1) * 4 + 2, none⟩ = some (.int .i64 xm) := cell_keep hm3 hgl d2
            have d2 : W3.drew.cell? ⟨g, (j + 1) * 4 + 2, none⟩ = some (.int .i64 xm) := cell_keep hm3.drew hgl d2
            have d3' : W3.cell? ⟨g, (j + 1) * 4 + 3, none⟩ = some (.int .i64 xc) := cell_keep hm3 hgl d3
            have d3 : W3.drew.cell? ⟨g, (j + 1) * 4 + 3, none⟩ = some (.int .i64 xc) := cell_keep hm3.drew hgl d3
            clear k0 k1 k4 k5 hm3 hk hr3
            go_wp2_with fail
            have hmx : Try.prog.follows .mixedOrders = true := by kernel_rfl
            go_big_region_o
            clear c0 c1 c2 c3 d0 d1 d2 d3 c0' c1' c2' c3' d0' d1' d2' d3' hf hf' hmx
            have hge := (hrr.out.lt g rfl).1
            have hl2 := mid_len ((xo, xh), (xm, xc)) M (show j + 1 ≤ M.length by omega)
            have p1 := row_put bcell_len hr3H.out (j := j) (by omega) (by omega) ((xo, xh), (xm, xc))
            have p2 := row_put bcell_len p1 (j := j + 1) (by rw [List.length_set]; omega) (by omega) ((ao, ah), (am, ac))
            rw [hsw.out] at p2
            have p3 := Lib.hid (row_mod p2 (Mod.refl [] _).drew (by simp))
            have m3 := Lib.hid (Mod.setCells (.inr hge) (bcell ((ao, ah), (am, ac))) ((j + 1) * 4) _ (Mod.setCells (.inr hge) (bcell ((xo, xh), (xm, xc))) (j * 4) W3 hm4.out)).drew
            clear p1 p2 hl2
            go_wp2_with fail
            go_roundw
            case rel => exact ⟨j, by omega, by go_num, m3.out, p3.out, hgo'.out⟩
            case measure => simp [intOf]
      · obtain rfl : j = 0 := by omega
        have hin : mid ((xo, xh), (xm, xc)) M 0 = ins ((xo, xh), (xm, xc)) M := (ins_split _ [] M (by simp) (by simpa using hCH.out)).symm
        have hrF := hrr.out
        rw [hin] at hrF
        clear hin
        have hb2 := (hmH.out).at hbH.out (by simp)
        have hcb := cells_of hb2
        have hfb := frozen_of hb2
        have hrFH := Lib.hid hrF
        have hlen : (ins ((xo, xh), (xm, xc)) M).length = M.length + 1 := (ins_perm _ M).length_eq
        clear hb2 hrF
        go_wp2_with fail
        go_end0
        refine rled_set hhH.out (hm0H.out.nil_then (hmH.out)) ?_
        rw [hlen]
        exact row_base hrFH.out (by rw [hyb]; have := hm0H.out.size; omega)
end Go.Proofs.Ytappkiiihnaegaa
