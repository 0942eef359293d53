/- Generations: the free slots as a list. -/
import Derived.Test.YtcdmapllligjhaaPoolAllG
import Derived.Test.YtcdmapllligjhaaGenN
namespace Go.Proofs.Ytcdmapllligjhaa
open Go Go.RowKit Go.Stg
attribute [local go_sem] Oper.semAt_some

/-- A list of numbers that can be read. -/
def IntsAt (w : World) (v : Value) (xs : List Int) : Prop :=
  (v = .slice none 0 0 ∧ xs = []) ∨ ∃ sb so cap, v = .slice (some ⟨sb, so, none⟩) xs.length cap ∧ sb < w.heap.size ∧ xs.length ≤ 1000000 ∧
    ∀ i (h : i < xs.length), w.cell? ⟨sb, so + i, none⟩ = some (.int .i64 xs[i])
theorem IntsAt.len {w0 : World} {v : Value} {xs : List Int} (h : IntsAt w0 v xs) (ty : TypeId) (w : World) : (Builtin.len_ #[67] ty #[v]).run Try.prog w = .ok (.int .i64 xs.length) w := by
  rcases h with ⟨rfl, rfl⟩ | ⟨sb, so, cap, rfl, _⟩ <;> simp [Builtin.len_, run_underlying Try.underlying67, goInt]
theorem IntsAt.mod {S : List Nat} {w w' : World} {v : Value} {xs : List Int} (h : IntsAt w v xs) (hm : Mod S w w') (hS : ∀ x, v.ownBlock = some x → x ∉ S) : IntsAt w' v xs := by
  rcases h with h | ⟨sb, so, cap, rfl, h2, h3, h4⟩
  · exact .inl h
  · exact .inr ⟨sb, so, cap, rfl, hm.lt h2, h3, fun i hi => (cell_mod hm h2 (hS sb rfl)).trans (h4 i hi)⟩
theorem IntsAt.small {w : World} {v : Value} {xs : List Int} (h : IntsAt w v xs) : xs.length ≤ 1000000 := by
  rcases h with ⟨_, rfl⟩ | ⟨_, _, _, _, _, h, _⟩
  · simp
  · exact h
theorem wpListIn_append_row {F : Fence} {n' : Nat} {P : Program} (w : World) {ops : Array Oper} {rest : List Oper} {o : Oper} {a : Act} {Q : Exit → Act → World → Prop} (hgd : o.guard = none) (s x : Operand) (t : TypeId)
    (ho : o.op = Op.call { callee := Callee.builtin Builtin.append, args := #[s, x], argTypes := #[t, t] })
    (base : Nat) (e : TypeId) (i : TypeInfo) (z : Value) (size bytes : Nat) (ht : P.underlying t = some (.slice e)) (hi : P.info? e = some i) (hz : i.zero = some z)
    (hsize : i.size = size) (hby : i.bytes = bytes) (hzs : z.cells.size = size) (hsz : 0 < size)
    (v : Value) (n : Nat) (xs : List Value) (hs : a.eval s = v) (hown : w.ownsRow base e size v n xs)
    (ad : Addr) (m c : Nat) (news : List Value) (hx : a.eval x = .slice (some ad) m c) (hl : news.length = m * size) (hnews : ∀ j u, news[j]? = some u → w.cell? (ad.add j) = some u) (h1 : ∀ u ∈ news, u.oneCell' = true)
    (h63 : n + m ≤ maxLen) (hbytes : (n + m) * bytes ≤ 140737488355328) (hb : base ≤ w.heap.size)
    (h : ∀ v' w', w'.ownsRow base e size v' (n + m) (xs ++ news) → w.grownBy w' v.ownBlock → (∀ x, v'.ownBlock = some x → v.ownBlock = some x ∨ w.heap.size ≤ x) → wpListIn F n' P ops Q rest (a.put o.dst v') w') : wpListIn F n' P ops Q (o :: rest) a w := by
  refine wpListIn_plain hgd fun K hK' => ?_
  obtain ⟨v', w', hrun, h2, h3, h4⟩ := run_append_row (P := P) w t o.type e i z size bytes ht hi hz hsize hby hzs hsz v n xs (row_base hown (Nat.zero_le _)) ad m c news hl hnews h1 h63 hbytes
  have h2' : w'.ownsRow base e size v' (n + m) (xs ++ news) := row_all h2 fun g hg => by
    rcases h4 g hg with h | h
    · exact (hown.lt g h).1
    · omega
  unfold Oper.wpIn
  refine ⟨?_, ?_⟩
  · simp [Oper.about, ho, resolve, Target.leads, Sem.run_pure]
  · rw [Oper.semAt_plain F _ _ (by rw [ho]; intro c hc'; cases hc')]
    simp [execOp, ho, resolve, invoke, builtin, hs, hx, hrun, Result.andThen]
    exact hK' _ _ (h v' w' h2' h3 h4)

theorem putObj_other (W : World) {l k : Nat} (o' : Obj) (h : k ≠ l) : (W.putObj l o').heap[k]? = W.heap[k]? := by
  show (W.heap.setIfInBounds l o')[k]? = _
  rw [Array.getElem?_setIfInBounds_ne (Ne.symm h)]
/-- What no slice in box h owns. -/
def Apart1 (h : Nat) (W : World) (k : Nat) : Prop := ∀ v, W.cell? ⟨h, 0, none⟩ = some v → v.ownBlock ≠ some k
theorem apart1_put {h B : Nat} (hB : h < B) : ∀ (W : World) (l : Nat) (o' : Obj) k, B ≤ l → Apart1 h W k → Apart1 h (W.putObj l o') k := by
  intro W l o' k hl ha v hv
  refine ha v ?_
  rw [← hv]
  exact (World.cell?_of_block (a := ⟨h, 0, none⟩) (putObj_other W o' (by show h ≠ l; omega))).symm
set_option maxRecDepth 100000 in
set_option maxHeartbeats 4000000 in
theorem appendseq_ok (B b : Nat) (sv : Value) (xs : List Int) (w : World) (bN : w.heap[B]? = some (.cells #[.pointer (some ⟨b, 0, none⟩)] 102 (0, 0))) (hp : PoolAt 124 3 w b sv (xs.map (.int .i64))) : Calls Try.prog 64 #[.slice none 0 0, .func (.func 65) #[] #[.pointer (some ⟨B, 0, none⟩)]] w fun e w' => ∃ v, e = .returned v ∧ Mod [] w w' ∧ IntsAt w' v xs := by
  obtain ⟨i0, hi, hz0, hz1, hz2⟩ := info_parts info_int
  have hlen := hp.len
  simp only [List.length_map] at hlen
  refine (callsIn_wide (n := 5)).1 ?_
  refine callsIn_of_wp_marks Try.func64 rfl trivial ?_ rfl
  simp only [Try.ntmps64, List.size_toArray, List.length_cons, List.length_nil, Nat.reduceAdd, Nat.reduceSub, Array.replicate_succ, Array.replicate_zero, List.push_toArray, List.append_toArray, List.nil_append, List.cons_append]
  gi_wp2_with fail
  have hBlt := lt_of bN
  have bO0 := Boxed.new w 67 (.slice none 0 0)
  have bN := at_alloc_old (o := .cells #[.slice none 0 0] 67) bN
  have hB0 : RowKit.Below w.heap.size w (w.alloc (.cells #[.slice none 0 0] 67)) := (RowKit.Below.refl _ w).alloc (Nat.le_refl _) _
  have hp0 := hp.mod (Mod.of_below hB0) (by simp)
  have hsz : (w.alloc (.cells #[.slice none 0 0] 67)).heap.size = w.heap.size + 1 := by simp
  generalize w.alloc (.cells #[.slice none 0 0] 67) = W0 at *
  have hst := AllI_stops 4 (by omega) B W0.heap.size b (Apart1 w.heap.size) sv xs W0 bN (by omega) hp0 (fun W W2 k h1 h2 hk v hv => by
    have e1 : W2.cell? ⟨w.heap.size, 0, none⟩ = some (.slice none 0 0) := by
      rw [World.cell?_of_block (a := ⟨w.heap.size, 0, none⟩) (h2.block _ (Nat.lt_of_lt_of_le (by show w.heap.size < W0.heap.size; omega) h1.size)), World.cell?_of_block (a := ⟨w.heap.size, 0, none⟩) (h1.block _ (by show w.heap.size < W0.heap.size; omega))]
      exact bO0.cell
    rw [e1] at hv
    cases hv
    simp [Value.ownBlock])
  refine wpIn_rangeFunc_ownG rfl (by omega) (gf := 65) (lb := #[.pointer (some ⟨B, 0, none⟩)]) rfl trivial (enters_of Try.func65 (by kernel_rfl) rfl) hst keeps_t
    (keeps_b (apart1_put (by omega))) (RowKit.Below.refl _ _) (fun _ => rfl)
    (fun (pre : List Int) W => (∃ v, Boxed W w.heap.size 67 v ∧ W.ownsRow w.heap.size 3 1 v pre.length (pre.map (Value.int .i64)) ∧ True) ∧ RowKit.Below w.heap.size w W) (fun _ _ _ => False)
    (OwnFrom.and (Own.from (holdsRow_own w.heap.size w.heap.size 67 3 1 (fun (pre : List Int) => pre.length) (fun (pre : List Int) => pre.map (Value.int .i64)) (fun _ _ => True)) _) (ownFrom_below (Nat.le_refl _) (by omega))) (fun _ _ _ _ _ hs _ _ => hs)
    ⟨⟨_, bO0, World.ownsRow_nil _ _ _ _, trivial⟩, hB0⟩ ?a1 ?assign ?body ?done ?stop
  case assign =>
    intro l x W K hK
    gi_wp2
    exact hK
  case body =>
    rintro l pre x W ⟨⟨v, hv, hrow, -⟩, hB⟩ hlt
    have hc := hv.cell
    clear hst hp0 bO0 bN hB0 hp
    gi_wp2_with (gi_at_builtin; refine wpListIn_append_row _ rfl _ _ 67 rfl w.heap.size 3 i0 (.int .i64 0) 1 8 Try.underlying67 hi hz0 hz1 hz2 rfl (by decide) _ _ _ rfl (hrow.alloc _) ⟨W.heap.size, 0, none⟩ 1 1 [.int .i64 x] rfl rfl (cell_one_new _ _ _) (by simp [Value.oneCell']) (by unfold maxLen; omega) (by omega) (by have := hB.size; simp; omega) ?_; intro v' w1 hown' hgrow hfr; obtain ⟨g', cap', rfl⟩ := ownsRow_succ hown'; obtain ⟨hv1, hv2, hr2, hk2, hb2⟩ := hv.appended (by decide) hrow hB.size (Nat.le_refl _) hown' hgrow; have hc1 := hv1.cell; have hf1 := hv1.frozen)
    refine ⟨hk2.from _, ⟨hk2.size, fun k cs T fr hk ha hck => ⟨?_, fun u hu => ?_⟩⟩, ⟨_, hv2, by simpa using hr2, trivial⟩, hB.trans hb2⟩
    · have hlt := lt_of hck
      have hne : k ≠ w.heap.size := by omega
      have h1 := (hgrow.block k (by simp; omega) (fun e => ha v hc e.symm)).trans (at_alloc_old hck)
      exact at_setCell_other h1 hne
    · rw [hv2.cell] at hu
      cases hu
      intro e
      rcases hfr k e with h | h
      · exact ha v hc h
      · have := lt_of hck
        simp at h
        omega
  case done =>
    rintro D ys W hD rfl ⟨⟨v, hv, hrow, -⟩, hB⟩ hK
    have hc := hv.cell
    gi_wp2_with fail
    refine ⟨by simp, .inl ⟨_, _, rfl, run_takeDeferred hK, ?_⟩⟩
    have hK' := ownsRow_putObj hrow (.deferred none) hK rfl
    have hB' := hB.trans (belowK_b (w := w) (Nat.le_refl _) W D _ (.deferred none) (by omega) hK rfl rfl)
    generalize W.putObj D (.deferred none) = W2 at *
    refine ⟨_, results_tmp rfl _ _ _, v, rfl, Mod.of_below hB', ?_⟩
    rcases hK'.2 with ⟨rfl, h2⟩ | ⟨g, cap, cur, rfl, h2, h3, h4, h5, h6, h7⟩
    · exact .inl ⟨rfl, List.eq_nil_of_length_eq_zero h2⟩
    · refine .inr ⟨g, 0, cap, rfl, lt_of h3, hlen, fun i hi => ?_⟩
      have hcc := hK'.cellAt i (by omega)
      rw [List.getElem?_map, List.getElem?_eq_getElem hi] at hcc
      rw [Nat.zero_add]
      exact hcc
  case stop =>
    rintro D c pre W _ _ h _
    exact h.elim
theorem collect_ok (B b : Nat) (sv : Value) (xs : List Int) (w : World) (bN : w.heap[B]? = some (.cells #[.pointer (some ⟨b, 0, none⟩)] 102 (0, 0))) (hp : PoolAt 124 3 w b sv (xs.map (.int .i64))) : Calls Try.prog 59 #[.func (.func 65) #[] #[.pointer (some ⟨B, 0, none⟩)]] w fun e w' => ∃ v, e = .returned v ∧ Mod [] w w' ∧ IntsAt w' v xs := by
  have hA := Lib.hid (appendseq_ok B b sv xs w bN hp)
  clear hp bN
  go_enter Try.func59, Try.ntmps59
  go_wp2_with fail
  refine hA.out.mono ?_
  rintro e w1 ⟨v, rfl, hm, hi⟩
  obtain ⟨a, n, c, rfl⟩ : ∃ a n c, v = .slice a n c := by
    rcases hi with ⟨rfl, _⟩ | ⟨_, _, _, rfl, _⟩
    · exact ⟨_, _, _, rfl⟩
    · exact ⟨_, _, _, rfl⟩
  go_wp2_with fail
  go_ret
  exact ⟨_, rfl, hm, hi⟩
theorem pool_ok {w : World} {b pb : Nat} {first ret : Int} {S : List Slot} {F : List Int} {sl psv : Value} (h : GenAt w b first S F ret sl psv pb) : Calls Try.prog 50 #[.pointer (some ⟨b, 0, none⟩)] w fun e w' => ∃ v, e = .returned v ∧ Mod [] w w' ∧ IntsAt w' v F := by
  have hcb := cells_of h.blk
  have hp := Lib.hid h.pool
  clear h
  go_enter Try.func50, Try.ntmps50
  go_wp2_with fail
  refine (AllI_made (some ⟨pb, 0, none⟩) _).mono ?_
  rintro e w1 ⟨rfl, rfl⟩
  have bN := at_alloc w (.cells #[.pointer (some ⟨pb, 0, none⟩)] 102)
  have hp1 := hp.out.mod ((Mod.refl [] w).alloc (.cells #[.pointer (some ⟨pb, 0, none⟩)] 102)) (by simp)
  have hm0 := (Mod.refl [] w).alloc (.cells #[.pointer (some ⟨pb, 0, none⟩)] 102)
  have hC := Lib.hid (collect_ok w.heap.size pb psv F _ bN hp1)
  clear hp1 hp
  go_wp2_with fail
  refine hC.out.mono ?_
  rintro e w2 ⟨v, rfl, hm, hi⟩
  obtain ⟨a, n, c, rfl⟩ : ∃ a n c, v = .slice a n c := by
    rcases hi with ⟨rfl, _⟩ | ⟨_, _, _, rfl, _⟩
    · exact ⟨_, _, _, rfl⟩
    · exact ⟨_, _, _, rfl⟩
  go_wp2_with fail
  go_ret
  exact ⟨_, rfl, hm0.nil_then hm, hi⟩
end Go.Proofs.Ytcdmapllligjhaa
