/- GenerationOnce: a map whose keys are pairs; the walk of the law. -/
import Derived.Test.YtgoiifffpdednaaGenT
namespace Go.Proofs.Ytgoiifffpdednaa
open Go Go.RowKit Go.Stg

abbrev Pr := Int × Int
def prV (p : Pr) : Value := .agg #[.int .i64 p.1, .int .i64 p.2]
theorem eq_pr (p q : Pr) (w : World) : (Op.equalIn 10000 34 (prV p) (prV q)).run Try.prog w = .ok (p.1 == q.1 && p.2 == q.2) w := by
  have u3 := Try.underlying3
  have a3 := Try.isAgg3
  have z3 := Try.sizeOf3
  unfold prV
  rw [show (10000 : Nat) = 9999 + 1 from rfl, Op.equalIn]
  simp only [Sem.run_bind, run_underlying Try.underlying34, Result.andThen_ok]
  simp only [Std.Legacy.Range.forIn_eq_forIn_range', Std.Legacy.Range.size, Nat.sub_zero, Nat.add_sub_cancel, Nat.div_one, List.range'_succ, List.range'_zero, List.forIn_cons, List.forIn_nil]
  go_simp
  by_cases h1 : p.1 = q.1 <;> by_cases h2 : p.2 = q.2 <;> simp [h1, h2]
def PKeys (es : List MapEntry) (ps : List Pr) : Prop := es.map (·.key) = ps.map prV
theorem asking_none (p : Pr) (w : World) : ∀ (es : List MapEntry) (ps : List Pr) (i : Nat), PKeys es ps → p ∉ ps → (Instr.findAsking 34 (prV p) es i).run Try.prog w = .ok none w
  | [], _, i, _, _ => by simp [Instr.findAsking]
  | e :: es, [], i, h, _ => by simp [PKeys] at h
  | e :: es, q :: ps, i, h, hn => by
    simp only [PKeys, List.map_cons, List.cons.injEq] at h
    obtain ⟨h1, h2⟩ := h
    have hpq : p ≠ q := fun e => hn (by simp [e])
    have hb : (p.1 == q.1 && p.2 == q.2) = false := by
      rcases p with ⟨a, b⟩; rcases q with ⟨c, d⟩
      simp only [ne_eq, Prod.mk.injEq] at hpq
      simp only [Bool.and_eq_false_iff, beq_eq_false_iff_ne]
      by_cases h : a = c
      · right; exact fun h' => hpq ⟨h, h'⟩
      · exact .inl h
    have he : (Op.equalIn Op.maxDepth 34 (prV p) (prV q)).run Try.prog w = .ok (p.1 == q.1 && p.2 == q.2) w := eq_pr p q w
    rw [hb] at he
    have ih := asking_none p w es ps (i + 1) h2 (fun h => hn (by simp [h]))
    unfold Instr.findAsking
    simp [h1, Op.equal, he, ih]
theorem find_none (p : Pr) (w : World) (es : List MapEntry) (ps : List Pr) (h : PKeys es ps) (hn : p ∉ ps) : (Instr.findKey 34 (prV p) es).run Try.prog w = .ok none w := by
  unfold Instr.findKey
  cases es with
  | nil => simp [run_underlying Try.underlying34, Instr.findNow]
  | cons e es => simp [run_underlying Try.underlying34, Instr.findNow, Instr.sameNow, asking_none p w (e :: es) ps 0 h hn]
theorem check_pr (e : Bool) (p : Pr) (w : World) : (Instr.checkKey e 10000 34 (prV p)).run Try.prog w = .ok () w := by
  have z3 := Try.sizeOf3
  have a3 := Try.isAgg3
  have hc : ∀ v w, (Instr.checkKey e 9999 3 v).run Try.prog w = .ok () w := fun v w => by
    rw [show (9999 : Nat) = 9998 + 1 from rfl]
    unfold Instr.checkKey
    simp [run_underlying Try.underlying3]
  rw [show (10000 : Nat) = 9999 + 1 from rfl]
  unfold Instr.checkKey prV
  simp only [Sem.run_bind, run_underlying Try.underlying34, Result.andThen_ok]
  simp only [Std.Legacy.Range.forIn_eq_forIn_range', Std.Legacy.Range.size, Nat.sub_zero, Nat.add_sub_cancel, Nat.div_one, List.range'_succ, List.range'_zero, List.forIn_cons, List.forIn_nil]
  go_simp
def MapIs (w : World) (mb : Nat) (ps : List Pr) : Prop := ∃ es c, w.heap[mb]? = some (.map es c) ∧ PKeys es.toList ps
theorem map_look {w : World} {mb : Nat} {ps : List Pr} (h : MapIs w mb ps) (p : Pr) (hn : p ∉ ps) : (Instr.lookup 28 (.map (some mb)) (.agg #[.int .i64 p.1, .int .i64 p.2]) false).run Try.prog w = .ok (.bool false) w := by
  obtain ⟨es, c, hb, hk⟩ := h
  have hf := find_none p w es.toList ps hk hn
  have hc := check_pr es.isEmpty p w
  unfold prV at hf hc
  unfold Instr.lookup
  simp [run_underlying Try.underlying28, Stg.run_getObj_map hb, hf, hc, Try.zeroValue4]
theorem map_put {w : World} {mb : Nat} {ps : List Pr} (h : MapIs w mb ps) (p : Pr) (hn : p ∉ ps) : ∃ w', (Instr.mapUpdate 28 (.map (some mb)) (.agg #[.int .i64 p.1, .int .i64 p.2]) (.bool true)).run Try.prog w = .ok () w' ∧ MapIs w' mb (ps ++ [p]) ∧ Mod [mb] w w' := by
  obtain ⟨es, c, hb, hk⟩ := h
  have hf := find_none p w es.toList ps hk hn
  have hc := check_pr false p w
  unfold prV at hf hc
  refine ⟨{ w with heap := w.heap.setIfInBounds mb (.map (es.push { key := prV p, val := .bool true, born := c }) (c + 1)) }, ?_, ⟨_, _, at_setMap hb, ?_⟩, (Mod.refl _ w).setMap (.inl (by simp)) _⟩
  · unfold Instr.mapUpdate
    simp [run_underlying Try.underlying28, Stg.run_getObj_map hb, hf, hc, Stg.run_setObj_map hb, prV]
  · unfold PKeys at hk ⊢
    rw [Array.toList_push, List.map_append, List.map_append, hk]
    rfl
theorem MapIs.mod {S : List Nat} {w w' : World} {mb : Nat} {ps : List Pr} (h : MapIs w mb ps) (hm : Mod S w w') (hS : mb ∉ S) : MapIs w' mb ps := by
  obtain ⟨es, c, h1, h2⟩ := h
  exact ⟨es, c, hm.at h1 hS, h2⟩
theorem MapIs.lt {w : World} {mb : Nat} {ps : List Pr} (h : MapIs w mb ps) : mb < w.heap.size := by
  obtain ⟨es, c, h1, h2⟩ := h
  exact lt_of h1

/-- Slots and the map of what was seen. -/
def Once (W : World) (b pb : Nat) (sl : Value) (first : Int) (x : GS) (mb : Nat) (ps : List Pr) (w : World) : Prop :=
  ∃ psv, Mod [] W w ∧ GenAt w b first x.S x.F x.ret sl psv pb ∧ (∀ y ∈ gfoot b pb sl psv, W.heap.size ≤ y) ∧ MapIs w mb ps ∧ W.heap.size ≤ mb ∧ ∀ y ∈ gfoot b pb sl psv, y ∉ [mb]
section
variable {W w : World} {b pb : Nat} {sl : Value} {first : Int} {x : GS} {mb : Nat} {ps : List Pr} (h : Once W b pb sl first x mb ps w)
include h
theorem Once.wmod : Mod [] W w := let ⟨_, h, _⟩ := h; h
theorem Once.map : MapIs w mb ps := let ⟨_, _, _, _, h, _⟩ := h; h
theorem Once.nil {w' : World} (hm : Mod [] w w') : Once W b pb sl first x mb ps w' := by
  obtain ⟨psv, h1, h2, h3, h4, h5, h6⟩ := h
  exact ⟨psv, h1.nil_then hm, h2.mod hm (by simp), h3, h4.mod hm (by simp), h5, h6⟩
theorem Once.put {w' : World} {p : Pr} (hm : Mod [mb] w w') (hp : MapIs w' mb (ps ++ [p])) : Once W b pb sl first x mb (ps ++ [p]) w' := by
  obtain ⟨psv, h1, h2, h3, h4, h5, h6⟩ := h
  exact ⟨psv, h1.then hm (by simpa using h5), h2.mod hm h6, h3, hp, h5, h6⟩
theorem Once.post {v : Value} {x' : GS} {f : Array Value} {fn : Nat} (hc : ∀ psv, GenAt w b first x.S x.F x.ret sl psv pb → Calls Try.prog fn f w (GenPost v b first x'.S x'.F x'.ret sl psv pb w)) : Calls Try.prog fn f w fun e w' => e = .returned v ∧ Once W b pb sl first x' mb ps w' := by
  obtain ⟨psv, h1, h2, h3, h4, h5, h6⟩ := h
  refine (hc psv h2).mono ?_
  rintro e w' ⟨psv', rfl, hm, hG, hf⟩
  have hg := gfoot_grow (b := b) (pb := pb) (sl := sl) hf
  have hmb : mb ∉ gfoot b pb sl psv := fun hh => h6 mb hh (by simp)
  refine ⟨rfl, psv', h1.then hm (fun y hy => .inr (h3 y hy)), hG, fun y hy => ?_, h4.mod hm hmb, h5, apart_grow h6 (by simpa using h4.lt) hg⟩
  rcases hg y hy with h | h
  · exact h3 y h
  · exact Nat.le_trans h1.size h
end
def SeenI (n : Nat) (x : GS) (ps : List Pr) : Prop := ∀ p ∈ ps, ∃ m : Nat, p.1 = m ∧ m < n ∧ p.2 ≤ (slotN x.S m).1
theorem iss_cases {n : Nat} {first : Int} {x : GS} {ps : List Pr} (h : GInv n first x) (hf1 : 1 ≤ first) (hf2 : first ≤ 4294967295) (hs : SeenI n x ps) (d : Int) :
    (issV first x d = .tuple #[.int .i64 0, .int .i64 0, .int .i64 17] ∧ SeenI n (issG first x d) ps) ∨
    ∃ (j : Nat) (g : Int), issV first x d = .tuple #[.int .i64 j, .int .i64 g, .int .i64 0] ∧ j < n ∧ first ≤ g ∧ g ≤ 4294967295 ∧ ((j : Int), g) ∉ ps ∧ SeenI n (issG first x d) (ps ++ [((j : Int), g)]) := by
  unfold issV issG
  by_cases hn : 0 < x.F.length
  · right
    rw [if_pos hn, dif_pos hn]
    obtain ⟨hi, hj, hp, hF, hjn, hd, hg0, hg1, hsl⟩ := h.pick hf1 hf2 hn d
    generalize pickI x.F d = i at *
    generalize pickS x.F d = j at *
    have hgn := h.gens j hjn
    rw [hsl] at hgn ⊢
    have hg2 : first ≤ nextG first x.S[j].1 ∧ nextG first x.S[j].1 ≤ 4294967295 ∧ x.S[j].1 < nextG first x.S[j].1 := by
      unfold nextG
      rcases hgn with e | e
      · rw [e]; simp; omega
      · split <;> omega
    refine ⟨j, _, rfl, hjn, hg2.1, hg2.2.1, fun hm => ?_, fun p hp => ?_⟩
    · obtain ⟨m, h1, h2, h3⟩ := hs _ hm
      obtain rfl : j = m := by have h1 : (j : Int) = m := h1; omega
      rw [hsl] at h3
      simp at h3
      omega
    · show ∃ m : Nat, p.1 = m ∧ m < n ∧ p.2 ≤ (slotN (x.S.set j _) m).1
      rcases List.mem_append.1 hp with hp | hp
      · obtain ⟨m, h1, h2, h3⟩ := hs p hp
        refine ⟨m, h1, h2, ?_⟩
        rw [slotN_set hj]
        by_cases e : m = j
        · rw [if_pos e]
          rw [e, hsl] at h3
          show p.2 ≤ nextG _ _
          omega
        · rw [if_neg e]; exact h3
      · rw [List.mem_singleton.1 hp]
        refine ⟨j, rfl, hjn, ?_⟩
        rw [slotN_set hj, if_pos rfl]
        exact Int.le_refl _
  · left
    rw [if_neg hn, dif_neg hn]
    exact ⟨rfl, hs⟩
theorem SeenI.ends {n : Nat} {x : GS} {ps : List Pr} (h : SeenI n x ps) (k : Int) : SeenI n (endG x k) ps := fun p hp => by
  obtain ⟨m, h1, h2, h3⟩ := h p hp
  refine ⟨m, h1, h2, ?_⟩
  unfold endG
  by_cases hl : liveN x.S k = true
  · rw [if_pos hl]
    obtain ⟨j, rfl, hj, hd⟩ := liveN_iff hl
    have hh : (slotN (x.S.set j ((slotN x.S j).1, false)) m).1 = (slotN x.S m).1 := by
      rw [slotN_set hj]
      by_cases e : m = j
      · rw [if_pos e, e]
      · rw [if_neg e]
    rw [Int.toNat_natCast]
    split
    · show p.2 ≤ (slotN (x.S.set j ((slotN x.S j).1, false)) m).1
      rw [hh]; exact h3
    · show p.2 ≤ (slotN (x.S.set j ((slotN x.S j).1, false)) m).1
      rw [hh]; exact h3
  · rw [if_neg hl]; exact h3
set_option maxHeartbeats 4000000 in
set_option maxRecDepth 10000 in
theorem once_walk (nu f : Int) (sv : Value) (xs : List X2) (n0 : 0 ≤ nu) (n1 : nu ≤ 255) (f0 : 0 ≤ f) (f1 : f ≤ 255) (w : World) (hs : StepsAt w sv xs) :
    Calls Try.prog 3 #[.int .u8 nu, .int .u8 f, sv] w fun e w' => e = .returned (.bool true) ∧ Mod [] w w' := by
  have hln := fun ty w => hs.len ty w
  have hlm := hs.small
  obtain ⟨n, hn⟩ := Int.eq_ofNat_of_zero_le (show 0 ≤ nu % 8 by omega)
  have hn7 : n ≤ 7 := by omega
  obtain ⟨hf1, hf2⟩ := firstP_in f f0 f1
  have hsH := Lib.hid hs
  have hF := Lib.hid (fun w => first_any f f0 f1 w)
  generalize firstP f = first at *
  have hI0 := Lib.hid (GInv.start n first)
  have hmm := fun w => run_makeMap (P := Try.prog) 28 w
  clear hs
  go_enter Try.func3, Try.ntmps3
  go_wp2_with fail
  refine (hF.out _).mono ?_
  rintro e w1 ⟨rfl, hm1⟩
  go_wp2_with fail
  refine (Sl_new n first (by omega) hf1 hf2 w1).mono ?_
  rintro e w2 ⟨b, pb, sl, rfl, psv, m2, hG2, hf2'⟩
  have hlt2 : ∀ y ∈ gfoot b pb sl psv, y < w2.heap.size := hG2.foot_lt
  have hOn : Once w1 b pb sl first ⟨fresh n, upTo n, 0⟩ w2.heap.size [] (w2.alloc (.map #[] 0)) :=
    ⟨psv, m2.alloc _, hG2.mod ((Mod.refl [] w2).alloc _) (by simp), hf2', ⟨_, _, at_alloc w2 _, rfl⟩, m2.size, fun y hy => by simp; have := hlt2 y hy; omega⟩
  have hSe : SeenI n ⟨fresh n, upTo n, 0⟩ [] := fun p hp => by simp at hp
  have hI := hI0.out
  clear hI0 hG2 hf2' hlt2 m2
  go_wp2_with fail
  clear hmm
  generalize w2.alloc (.map #[] 0) = w3 at *
  generalize w2.heap.size = mb at *
  go_loopw [10] (fun i wr => ∃ k : Nat, k ≤ xs.length ∧ k ≤ 60 ∧ i = .int .i64 k ∧ ∃ (x : GS) (ps : List Pr), Once w1 b pb sl first x mb ps wr ∧ GInv n first x ∧ SeenI n x ps) (fun i _ => 60 - (intOf i).toNat)
  case atStart => exact ⟨0, by omega, by omega, rfl, _, _, hOn, hI, hSe⟩
  case round =>
    obtain ⟨k, hk1, hk2, rfl, x, ps, hO, hG, hSn⟩ := hrel
    clear hOn hI hSe
    by_cases hlt : k < xs.length
    · by_cases hlt2 : k < 60
      · have hk60 : decide ((k : Int) < 60) = true := by rw [decide_eq_true_eq]; omega
        have hGH := Lib.hid hG
        have hSH := Lib.hid hSn
        clear hG hSn
        have hsr := hsH.out.mod (hm1.nil_then hO.wmod)
        rcases hsr with ⟨_, rfl⟩ | ⟨sb, so, cap, rfl, h2, h3, h4⟩
        · simp at hlt
        · obtain ⟨⟨⟨a0, a1⟩, b0, b1⟩, c0, c1⟩ := h4 k hlt
          clear h4 hsH
          generalize hx0 : xs[k] = x0 at *
          clear hx0
          rcases x0 with ⟨xa, xb⟩
          simp only at a0 a1 b0 b1 c0 c1
          by_cases h3 : xa % 2 = 0
          · have hcall := Lib.hid (hO.post (v := issV first x xb) (x' := issG first x xb) (fun psv hg => iss_post hg hGH.out hf1 hf2 xb b0 (by omega)))
            clear hO
            go_wp2_with fail
            refine hcall.out.mono ?_
            have hG7 := Lib.hid (hGH.out.issue hf1 hf2 xb)
            rcases iss_cases hGH.out hf1 hf2 hSH.out xb with ⟨hV, hS7⟩ | ⟨j, g, hV, hjn, hg1, hg2, hnin, hS7⟩
            · rw [hV]
              rintro e w4 ⟨rfl, hO⟩
              have hS7 := Lib.hid hS7
              clear hV hcall
              go_wp2_with fail
              go_roundw
              case rel => exact ⟨k + 1, by omega, by omega, by go_num, _, _, hO, hG7.out, hS7.out⟩
              case measure => simp [intOf]; omega
            · rw [hV]
              rintro e w4 ⟨rfl, hO⟩
              have hS7 := Lib.hid hS7
              have hlk := map_look hO.map _ hnin
              clear hV hcall
              simp only at hlk
              have q1 : decide (g < first) = false := by rw [decide_eq_false_iff_not]; omega
              have q2 : decide (g > 4294967295) = false := by rw [decide_eq_false_iff_not]; omega
              go_wp2_with fail
              refine (hF.out _).mono ?_
              rintro e w5 ⟨rfl, hm5⟩
              have hO5 := hO.nil hm5
              obtain ⟨w6, hup, hmp, hmm⟩ := map_put hO5.map _ hnin
              have hO6 := hO5.put hmm hmp
              simp only at hup
              clear hlk hO hO5 hmp hmm
              go_wp2_with fail
              go_roundw
              case rel => exact ⟨k + 1, by omega, by omega, by go_num, _, _, hO6, hG7.out, hS7.out⟩
              case measure => simp [intOf]; omega
          · have hcall := Lib.hid (hO.post (v := .int .i64 (endV x (xb % 8))) (x' := endG x (xb % 8)) (fun psv hg => ends_post hg hGH.out (by omega) (xb % 8)))
            clear hO
            go_wp2_with fail
            refine hcall.out.mono ?_
            rintro e w4 ⟨rfl, hO⟩
            have hG7 := Lib.hid (hGH.out.endd (xb % 8))
            have hS7 := Lib.hid (hSH.out.ends (xb % 8))
            clear hcall
            go_wp2_with fail
            go_roundw
            case rel => exact ⟨k + 1, by omega, by omega, by go_num, _, _, hO, hG7.out, hS7.out⟩
            case measure => simp [intOf]; omega
      · have hm := hO.wmod
        clear hO
        go_wp2_with fail
        refine (awake_ok _).mono ?_
        rintro e w4 ⟨rfl, hm4⟩
        go_wp2_with fail
        go_ret
        exact ⟨rfl, (hm1.nil_then hm).nil_then hm4⟩
    · have hm := hO.wmod
      clear hO
      go_wp2_with fail
      refine (awake_ok _).mono ?_
      rintro e w4 ⟨rfl, hm4⟩
      go_wp2_with fail
      go_ret
      exact ⟨rfl, (hm1.nil_then hm).nil_then hm4⟩
end Go.Proofs.Ytgoiifffpdednaa
