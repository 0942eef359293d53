/- Made types. -/
import Derived.Test.YtkkjlioigdpacaaMake
namespace Go.Proofs.Ytkkjlioigdpacaa
open Go Go.RowKit Go.Stg

section
variable {P : Program} {ops : Array Oper} {I : World → Prop} {Out : Prop} {Q : Act → World → Prop}
/-- An operation that lays a block: its value names the block. -/
theorem stage_alloc (v : Nat → Value) (ob : Obj) (C' : Nat → World → Prop) {o : Oper} {rest : List Oper} {C : World → Prop} {a : Act}
    (hv : ∀ s s', v s = v s' → s = s') (hw : Region.wanted o (yielded ops a.tmps) = true) (he : eff o = true)
    (hrun : ∀ w, C w → (execOp a.eval o).run P w = .ok (.value (v w.heap.size)) (w.alloc ob)) (hC : ∀ w, C w → C' w.heap.size (w.alloc ob)) (hI : ∀ s w, C' s w → I w)
    (h : ∀ s, wpStage P ops I Out Q rest (C' s) (a.put o.dst (v s))) : wpStage P ops I Out Q (o :: rest) C a := by
  unfold wpStage
  simp only [hw, he, if_true]
  refine ⟨fun u => ∃ s, u = v s, fun u w => ∃ s, u = v s ∧ C' s w, ⟨v 0, 0, rfl⟩, fun w hc => ?_, fun u w ⟨s, h1, h2⟩ => ⟨⟨s, h1⟩, .inr (hI s w h2)⟩, fun u ⟨s, hu⟩ => ?_⟩
  · unfold gives
    rw [hrun w hc]
    exact ⟨_, rfl, hC w hc⟩
  · subst hu
    have e : (fun w => ∃ s', v s = v s' ∧ C' s' w) = C' s := by
      funext w
      apply propext
      constructor
      · rintro ⟨s', h1, h2⟩; rw [hv _ _ h1]; exact h2
      · intro h; exact ⟨s, rfl, h⟩
    have h' := h s
    rw [← e] at h'
    exact h'
/-- An operation whose value the class describes. -/
theorem stage_any (V : Value → Prop) (C' : Value → World → Prop) {o : Oper} {rest : List Oper} {C : World → Prop} {a : Act}
    (hw : Region.wanted o (yielded ops a.tmps) = true) (he : eff o = true) (hV : ∃ v, V v)
    (hrun : ∀ w, C w → ∃ v w', (execOp a.eval o).run P w = .ok (.value v) w' ∧ V v ∧ C' v w') (hI : ∀ v w, C' v w → I w)
    (h : ∀ v, V v → wpStage P ops I Out Q rest (C' v) (a.put o.dst v)) : wpStage P ops I Out Q (o :: rest) C a := by
  unfold wpStage
  simp only [hw, he, if_true]
  refine ⟨V, fun u w => V u ∧ C' u w, hV, fun w hc => ?_, fun u w h1 => ⟨h1.1, .inr (hI u w h1.2)⟩, fun u hu => ?_⟩
  · obtain ⟨v, w', hr, h1, h2⟩ := hrun w hc
    unfold gives
    rw [hr]
    exact ⟨h1, h2⟩
  · have e : (fun w => V u ∧ C' u w) = C' u := by
      funext w
      simp [hu]
    have h' := h u hu
    rw [← e] at h'
    exact h'
/-- A call of a Go function of whose value the class tells. -/
theorem stage_call_any (f : FuncId) (args : Array Value) (V : Value → Prop) (C' : Value → World → Prop) {o : Oper} {rest : List Oper} {C : World → Prop} {a : Act} {asz : Array Operand} {ts : Array TypeId}
    (hop : o.op = .call ⟨.value (.func f), asz, ts⟩) (hcall : ∀ (args : Array Value) w, (callFunc f args).run P w = .ok (.enter f args) w)
    (hw : Region.wanted o (yielded ops a.tmps) = true) (hargs : (asz.toList.map a.eval).toArray = args) (hV : ∃ v, V v)
    (hc : ∀ w, C w → Calls P f args w fun e w' => ∃ v, e = .returned v ∧ V v ∧ C' v w') (hI : ∀ v w, C' v w → I w)
    (h : ∀ v, V v → wpStage P ops I Out Q rest (C' v) (a.put o.dst v)) : wpStage P ops I Out Q (o :: rest) C a := by
  unfold wpStage
  have he : eff o = true := by simp [eff, hop]
  simp only [hw, he, if_true]
  refine ⟨V, fun u w => V u ∧ C' u w, hV, fun w hC => ?_, fun u w h1 => ⟨h1.1, .inr (hI u w h1.2)⟩, fun u hu => ?_⟩
  · unfold gives
    rw [run_go hop rfl hcall w, hargs]
    exact (hc w hC).mono fun e w' ⟨v, h1, h2, h3⟩ => by subst h1; exact ⟨h2, h3⟩
  · have e : (fun w => V u ∧ C' u w) = C' u := by
      funext w
      simp [hu]
    have h' := h u hu
    rw [← e] at h'
    exact h'
end
theorem exec_append {P : Program} {w w' : World} {o : Oper} {a : Act} {v u v' : Value} (s x : Operand) (t : TypeId) (ho : o.op = .call { callee := .builtin .append, args := #[s, x], argTypes := #[t, t] }) (hs : a.eval s = v) (hx : a.eval x = u)
    (hr : (Builtin.append_ #[t, t] o.type #[v, u]).run P w = .ok v' w') : (execOp a.eval o).run P w = .ok (.value v') w' := by
  unfold execOp
  simp only [ho, resolve, invoke, builtin, Sem.run_bind, Sem.run_pure, Result.andThen_ok, List.map_toArray, List.map_cons, List.map_nil, hs, hx, hr]

/-- What is made. -/
def Made (len : Int) (fs : List Fld) : Prop := (∀ f ∈ fs, Small f) ∧ ((len = 0 ∧ 1 ≤ fs.length ∧ fs.length ≤ 4) ∨ (1 ≤ len ∧ len ≤ 5 ∧ fs.length = 1))
set_option maxHeartbeats 4000000 in
set_option maxRecDepth 10000 in
theorem type_next (b K A B : Nat) (w : World) (h : TapeAt w b K A B) (hK : K ≤ 1000) :
    Calls Try.prog 12 #[.pointer (some ⟨b, 0, none⟩)] w fun e w' => ∃ (len : Int) (g cap : Nat) (fs : List Fld), e = .returned (.agg #[.int .i64 len, .slice (some ⟨g, 0, none⟩) fs.length cap]) ∧ FieldsAt w' (.slice (some ⟨g, 0, none⟩) fs.length cap) fs ∧ Made len fs ∧ fs.length ≤ cap ∧ Mod [b] w w' ∧ w.heap.size ≤ g ∧ TapeAt w' b (K + 12) A B ∧ w'.ownsRow 0 28 2 (.slice (some ⟨g, 0, none⟩) fs.length cap) fs.length (fcells fs) := by
  have hb := h.lt
  have q0 := at_alloc w (.cells #[.int .i64 0, .slice none 0 0] 31)
  have hm0 := (Mod.refl [] w).alloc (.cells #[.int .i64 0, .slice none 0 0] 31)
  have hN := Lib.hid (next_ok b K A B 4 (by omega) (by omega) _ (h.mod hm0) (by omega))
  clear h
  go_enter Try.func12, Try.ntmps12
  go_wp2_with fail
  refine hN.out.mono ?_
  rintro e w1 ⟨x, rfl, x0, x1, hm1, hT1⟩
  have q1 := hm1.at q0 (by simp; omega)
  have hm1 := (hm0.mono (T := [b]) (by simp)).then hm1 (fun y hy => .inl hy)
  clear q0 hm0 hN
  by_cases h0 : x = 0
  · subst h0
    go_wp2_with fail
    refine (next_ok b (K + 1) A B 5 (by omega) (by omega) _ hT1 (by omega)).mono ?_
    rintro e w2 ⟨y, rfl, y0, y1, hm2, hT2⟩
    have q2 := hm2.at q1 (by simp; omega)
    have hm2 := hm1.then hm2 (fun z hz => .inl hz)
    clear hm1 hT1 q1
    go_wp2_with fail
    refine (field_ok b (K + 2) A B _ hT2 (by omega)).mono ?_
    rintro e w3 ⟨k, c, rfl, hsm, hm3, hT3⟩
    have q3 := hm3.at q2 (by simp; omega)
    have hm3 := hm2.then hm3 (fun z hz => .inl hz)
    clear hm2 hT2 q2
    have hws3 := lt_of q3
    have cq := cells_of q3
    have fq := frozen_of q3
    have q3a := at_setCell (o := 0) (v := .int .i64 (1 + y)) q3
    have cq3 := cells_of q3a
    have fq3 := frozen_of q3a
    go_wp2_with fail
    have q4 := at_alloc_old (o := .cells #[.int .i64 k, .int .i64 c] 28) (at_setCell (o := 1) (v := .slice (some ⟨w3.heap.size, 0, none⟩) 1 1) q3a)
    have p4 := at_alloc ((w3.setCell ⟨w.heap.size, 0, none⟩ (.int .i64 (1 + y))).setCell ⟨w.heap.size, 1, none⟩ (.slice (some ⟨w3.heap.size, 0, none⟩) 1 1)) (.cells #[.int .i64 k, .int .i64 c] 28)
    have hsz : ((w3.setCell ⟨w.heap.size, 0, none⟩ (.int .i64 (1 + y))).setCell ⟨w.heap.size, 1, none⟩ (.slice (some ⟨w3.heap.size, 0, none⟩) 1 1)).heap.size = w3.heap.size := by simp [World.setCell]
    rw [hsz] at p4
    have hm4 := ((hm3.setCell (p := ⟨w.heap.size, 0, none⟩) (.inr (Nat.le_refl _)) (.int .i64 (1 + y))).setCell (p := ⟨w.heap.size, 1, none⟩) (.inr (Nat.le_refl _)) (.slice (some ⟨w3.heap.size, 0, none⟩) 1 1)).alloc (.cells #[.int .i64 k, .int .i64 c] 28)
    have c4 := cells_of q4
    have hT4 := (hT3.modS ((((Mod.refl [w.heap.size] w3).setCell (p := ⟨w.heap.size, 0, none⟩) (.inl (by simp)) (.int .i64 (1 + y))).setCell (p := ⟨w.heap.size, 1, none⟩) (.inl (by simp)) (.slice (some ⟨w3.heap.size, 0, none⟩) 1 1)).alloc (.cells #[.int .i64 k, .int .i64 c] 28)) (by simp; omega)).up (L := K + 12) (by omega)
    refine bodyPost_ret (v := .agg #[.int .i64 (1 + y), .slice (some ⟨w3.heap.size, 0, none⟩) 1 1]) ?_ rfl ⟨1 + y, w3.heap.size, 1, [(k, c)], rfl, fields_one p4, ⟨by simpa using hsm, .inr ⟨by omega, by omega, rfl⟩⟩, by simp, hm4, by omega, hT4, ⟨rfl, .inr ⟨_, 1, #[.int .i64 k, .int .i64 c], rfl, Nat.zero_le _, p4, Nat.le_refl _, by unfold maxLen; omega, rfl, rfl⟩⟩⟩
    simp [results, Try.results12, go_sem, c4]
  · have hne0 : (x == 0) = false := by simp only [beq_eq_false_iff_ne]; omega
    have p1 := at_alloc w1 (.cells #[.int .i64 0, .slice none 0 0] 31)
    have q1w := lt_of q1
    have q1 := at_alloc_old (o := .cells #[.int .i64 0, .slice none 0 0] 31) q1
    have hm1 := hm1.alloc (.cells #[.int .i64 0, .slice none 0 0] 31)
    have hT1 := hT1.mod ((Mod.refl [] w1).alloc (.cells #[.int .i64 0, .slice none 0 0] 31))
    go_wp2_with fail
    generalize hX : w1.heap.size = X at *
    generalize w1.alloc (.cells #[.int .i64 0, .slice none 0 0] 31) = W1 at *
    refine (next_ok b (K + 1) A B 4 (by omega) (by omega) _ hT1 (by omega)).mono ?_
    rintro e w2 ⟨y, rfl, y0, y1, hm2, hT2⟩
    have q2 := hm2.at q1 (by simp; omega)
    have p2 := hm2.at p1 (by simp; omega)
    have hm2 := hm1.then hm2 (fun z hz => .inl hz)
    clear hm1 hT1 q1 p1 hX
    obtain ⟨n0, hn0⟩ := Int.eq_ofNat_of_zero_le (show 0 ≤ 1 + y by omega)
    have hn4 : n0 ≤ 4 := by omega
    have hn1 : 1 ≤ n0 := by omega
    go_wp2_with fail
    clear hn0
    go_loopw [4] (fun i wr => ∃ (r : Nat) (fs : List Fld) (sv : Value), i = .int .i64 r ∧ fs.length + r = n0 ∧ (∀ f ∈ fs, Small f) ∧ Mod [b] w wr ∧ wr.heap[X]? = some (.cells #[.int .i64 0, sv] 31 (0, 0)) ∧ wr.heap[w.heap.size]? = some (.cells #[.int .i64 0, .slice none 0 0] 31 (0, 0)) ∧ wr.ownsRow 0 28 2 sv fs.length (fcells fs) ∧ (∀ z, sv.ownBlock = some z → w.heap.size ≤ z ∧ z ≠ X ∧ z ≠ w.heap.size) ∧ TapeAt wr b (K + 2 + 2 * fs.length) A B) (fun i _ => (intOf i).toNat)
    case atStart => exact ⟨n0, [], _, rfl, by simp, by simp, hm2, p2, q2, World.ownsRow_nil _ _ _ _, by simp [Value.ownBlock], by simpa using hT2⟩
    case round =>
      obtain ⟨r, fs, sv, rfl, hlen, hall, hm, hp, hq, hrow, hfs, hT⟩ := hrel
      clear hm2 p2 q2 hT2
      by_cases hr : 0 < r
      · obtain ⟨i0, hi0, hz0, hz1, hz2⟩ := info_parts info_field
        have hXn : w.heap.size ≠ X := by omega
        have hXS : X ∉ b :: sv.ownBlock.toList := fun hx => by
          rcases List.mem_cons.1 hx with e | hx
          · omega
          · exact (hfs X (by simpa using hx)).2.1 rfl
        have hRS : w.heap.size ∉ b :: sv.ownBlock.toList := fun hx => by
          rcases List.mem_cons.1 hx with e | hx
          · omega
          · exact (hfs _ (by simpa using hx)).2.2 rfl
        have hso : ∀ z, sv.ownBlock = some z → z < wr.heap.size := fun z hz => (hrow.lt z hz).2
        have hlen4 : fs.length ≤ 3 := by omega
        have h63 : fs.length + 1 ≤ maxLen := by unfold maxLen; omega
        have hby : (fs.length + 1) * 16 ≤ 140737488355328 := by omega
        have k1 := GW.cells (S := b :: sv.ownBlock.toList) hp hXS
        have hXw := lt_of hp
        go_wp2_with fail
        refine wp_region_stage (fun w' => ∃ x : GW (b :: sv.ownBlock.toList) wr, w' = x.1) (fun w' => Mod [] wr w') (by kernel_rfl) (by kernel_rfl) (fun _ h => InGW.of (h.mono (by simp))) (Mod.refl _ _).drew ?_
        refine stage_quiet 3 (by kernel_rfl) ?_
        simp only [List.take_succ_cons, List.take_zero, List.drop_succ_cons, List.drop_zero]
        repeat (go_big_quiet_step (fail))
        refine wpQuiet_nil ?_
        refine stage_call_any 26 _ (fun u => ∃ k c : Int, u = .agg #[.int .i64 k, .int .i64 c] ∧ Small (k, c)) (fun _ w' => Mod [b] wr w' ∧ TapeAt w' b (K + 2 + 2 * fs.length + 2) A B) rfl Try.call26 rfl rfl ⟨_, 1, 0, rfl, by simp [Small]⟩ (fun w' h => (field_ok b _ A B w' (hT.mod h) (by omega)).mono fun e w'' ⟨k, c, h1, h2, h3, h4⟩ => ⟨_, h1, ⟨k, c, rfl, h2⟩, (h.mono (T := [b]) (by simp)).then h3 (fun z hz => .inl hz), h4⟩) (fun _ _ h => InGW.of (h.1.mono (by simp))) (fun u hu => ?_)
        obtain ⟨k, c, rfl, hsm⟩ := hu
        simp only [Act.put, List.setIfInBounds_toArray, List.set_cons_succ, List.set_cons_zero]
        refine stage_alloc (fun s => .slice (some ⟨s, 0, none⟩) 1 1) (.cells #[.int .i64 k, .int .i64 c] 28 (0, 0)) (fun s w' => Mod [b] wr w' ∧ wr.heap.size ≤ s ∧ w'.heap[s]? = some (.cells #[.int .i64 k, .int .i64 c] 28 (0, 0)) ∧ TapeAt w' b (K + 2 + 2 * fs.length + 2) A B) (by intro s s' h; simpa using h) rfl rfl (fun w' hw => ?_) (fun w' hw => ⟨hw.1.alloc _, hw.1.size, at_alloc _ _, hw.2.mod ((Mod.refl [] w').alloc _)⟩) (fun s w' h => InGW.of (h.1.mono (by simp))) (fun s => ?_)
        · kernel_rfl
        simp only [Act.put, List.setIfInBounds_toArray, List.set_cons_succ, List.set_cons_zero]
        refine stage_any (fun v => ∃ g cap, v = .slice (some ⟨g, 0, none⟩) (fs.length + 1) cap) (fun v w' => Mod (b :: sv.ownBlock.toList) wr w' ∧ w'.ownsRow 0 28 2 v (fs.length + 1) (fcells (fs ++ [(k, c)])) ∧ (∀ y, v.ownBlock = some y → sv.ownBlock = some y ∨ wr.heap.size ≤ y) ∧ TapeAt w' b (K + 2 + 2 * fs.length + 2) A B) rfl rfl ⟨_, 0, 0, rfl⟩ (fun w' hw => ?_) (fun v w' h => InGW.of h.1) (fun v hv => ?_)
        · obtain ⟨hw1, hw2, hw3, hw4⟩ := hw
          have hnews : ∀ j u, [Value.int .i64 k, Value.int .i64 c][j]? = some u → w'.cell? ((⟨s, 0, none⟩ : Addr).add j) = some u := fun j u h => by
            rw [add_at, Nat.zero_add, cells_of hw3]
            simpa using h
          obtain ⟨v', w2, hr2, h2, h3, h4⟩ := run_append_row (P := Try.prog) w' 29 29 28 i0 (.agg #[.int .i64 0, .int .i64 0]) 2 16 Try.underlying29 hi0 hz0 hz1 hz2 rfl (by decide) sv fs.length (fcells fs) (row_mod hrow hw1 (fun g hg hgb => by have := hfs g hg; have hgb' : g = b := List.mem_singleton.1 hgb; omega)) ⟨s, 0, none⟩ 1 1 [.int .i64 k, .int .i64 c] rfl hnews (by simp [Value.oneCell']) h63 hby
          obtain ⟨g', cap', rfl, _, _⟩ := row_pos h2 (by omega)
          refine ⟨_, w2, exec_append _ _ 29 rfl rfl rfl hr2, ⟨g', cap', rfl⟩, (hw1.mono (by simp)).grown h3 (fun k hk => .inl (by simp [hk])), by rw [fcells_snoc]; exact h2, fun y hy => (h4 y hy).imp id (fun h => Nat.le_trans hw1.size h), hw4.modS ((Mod.refl sv.ownBlock.toList w').grown h3 (fun k hk => .inl (by simp [hk]))) (fun z hz => by have := hfs z (by simpa using hz); omega)⟩
        simp only [Act.put, List.setIfInBounds_toArray, List.set_cons_succ, List.set_cons_zero]
        obtain ⟨g, cap, rfl⟩ := hv
        refine stage_quiet 1 (by kernel_rfl) ?_
        simp only [List.take_succ_cons, List.take_zero, List.drop_succ_cons, List.drop_zero]
        repeat (go_big_quiet_step (fail))
        refine wpQuiet_nil ?_
        refine stage_store (p := ⟨X, 1, none⟩) (u := .slice (some ⟨g, 0, none⟩) (fs.length + 1) cap) (fun w' => w'.setCell ⟨X, 1, none⟩ (.slice (some ⟨g, 0, none⟩) (fs.length + 1) cap)) rfl rfl (by kernel_rfl) rfl rfl rfl (fun w' hw => ?_) (fun w' hw => ?_)
        · have c1 := cells_of (hw.1.at hp hXS)
          have f1 := frozen_of (hw.1.at hp hXS)
          clear k1
          go_simp
        · obtain ⟨hmw, hrw, hfw, hTw⟩ := hw
          clear k1
          go_wp2_with fail
          have hgn : w.heap.size ≤ g ∧ g ≠ X ∧ g ≠ w.heap.size := by
            rcases hfw g rfl with h | h
            · exact hfs g h
            · omega
          go_roundw
          case rel =>
            refine ⟨r - 1, fs ++ [(k, c)], .slice (some ⟨g, 0, none⟩) (fs.length + 1) cap, by congr 1; omega, by simp; omega, fun f hf => ?_, (hm.then hmw (fun z hz => ?_)).setCell (p := ⟨X, 1, none⟩) (.inr (by show w.heap.size ≤ X; omega)) _, at_setCell (o := 1) (hmw.at hp hXS), at_setCell_other (hmw.at hq hRS) hXn, ?_, fun z hz => ?_, ?_⟩
            · rcases List.mem_append.1 hf with hf | hf
              · exact hall f hf
              · rw [List.mem_singleton.1 hf]; exact hsm
            · rcases List.mem_cons.1 hz with e | hz
              · exact .inl (by simp [e])
              · exact .inr (hfs z (by simpa using hz)).1
            · have hr3 := row_mod hrw ((Mod.refl [X] w').setCell (p := ⟨X, 1, none⟩) (.inl (by simp)) (.slice (some ⟨g, 0, none⟩) (fs.length + 1) cap)) (fun z hz => by
                have hz' : some g = some z := hz
                obtain rfl := Option.some.inj hz'
                simpa using hgn.2.1)
              rw [List.length_append]
              exact hr3
            · have hz' : some g = some z := hz
              obtain rfl := Option.some.inj hz'
              exact hgn
            · have hT3 := (hTw.modS ((Mod.refl [X] w').setCell (p := ⟨X, 1, none⟩) (.inl (by simp)) (.slice (some ⟨g, 0, none⟩) (fs.length + 1) cap)) (by simp; omega)).up (L := K + 2 + 2 * (fs ++ [(k, c)]).length) (by simp; omega)
              exact hT3
          case measure => simp [intOf]; omega
      · obtain rfl : r = 0 := by omega
        have cp := cells_of hp
        have cq := cells_of hq
        have fq := frozen_of hq
        obtain ⟨g, cap, rfl, _, hg⟩ := row_pos hrow (by omega)
        have hgf := hfs g rfl
        have hXn : w.heap.size ≠ X := by omega
        have hcap : fs.length ≤ cap := by
          rcases row_cases hrow with ⟨h, _⟩ | ⟨g', cap', h, _, _, h2, _⟩
          · simp at h
          · simp at h
            obtain ⟨_, rfl⟩ := h
            exact h2
        go_wp2_with fail
        have q4 := at_setCell (o := 1) (v := .slice (some ⟨g, 0, none⟩) fs.length cap) (at_setCell (o := 0) (v := .int .i64 0) hq)
        have hm4 := (hm.setCell (p := ⟨w.heap.size, 0, none⟩) (.inr (Nat.le_refl _)) (.int .i64 0)).setCell (p := ⟨w.heap.size, 1, none⟩) (.inr (Nat.le_refl _)) (.slice (some ⟨g, 0, none⟩) fs.length cap)
        have hr4 := row_mod hrow (((Mod.refl [w.heap.size] wr).setCell (p := ⟨w.heap.size, 0, none⟩) (.inl (by simp)) (.int .i64 0)).setCell (p := ⟨w.heap.size, 1, none⟩) (.inl (by simp)) (.slice (some ⟨g, 0, none⟩) fs.length cap)) (fun z hz => by simpa using (hfs z hz).2.2)
        have hF := (row_fields hrow rfl).modS (((Mod.refl [w.heap.size] wr).setCell (p := ⟨w.heap.size, 0, none⟩) (.inl (by simp)) (.int .i64 0)).setCell (p := ⟨w.heap.size, 1, none⟩) (.inl (by simp)) (.slice (some ⟨g, 0, none⟩) fs.length cap)) (fun z hz => by simpa using (hfs z hz).2.2)
        have c4 := cells_of q4
        have hT4 := (hT.modS (((Mod.refl [w.heap.size] wr).setCell (p := ⟨w.heap.size, 0, none⟩) (.inl (by simp)) (.int .i64 0)).setCell (p := ⟨w.heap.size, 1, none⟩) (.inl (by simp)) (.slice (some ⟨g, 0, none⟩) fs.length cap)) (by simp; omega)).up (L := K + 12) (by omega)
        refine bodyPost_ret (v := .agg #[.int .i64 0, .slice (some ⟨g, 0, none⟩) fs.length cap]) ?_ rfl ⟨0, g, cap, fs, rfl, hF, ⟨hall, .inl ⟨rfl, by omega, by omega⟩⟩, hcap, hm4, hgf.1, hT4, hr4⟩
        simp [results, Try.results12, go_sem, c4]
theorem type_ok (b K A B : Nat) (w : World) (h : TapeAt w b K A B) (hK : K ≤ 1000) :
    Calls Try.prog 12 #[.pointer (some ⟨b, 0, none⟩)] w fun e w' => ∃ (len : Int) (g cap : Nat) (fs : List Fld), e = .returned (.agg #[.int .i64 len, .slice (some ⟨g, 0, none⟩) fs.length cap]) ∧ FieldsAt w' (.slice (some ⟨g, 0, none⟩) fs.length cap) fs ∧ Made len fs ∧ fs.length ≤ cap ∧ Mod [b] w w' ∧ w.heap.size ≤ g :=
  (type_next b K A B w h hK).mono fun _ _ ⟨len, g, cap, fs, h1, h2, h3, h4, h5, h6, _⟩ => ⟨len, g, cap, fs, h1, h2, h3, h4, h5, h6⟩
end Go.Proofs.Ytkkjlioigdpacaa
