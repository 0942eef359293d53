/- The handle table: Issue, of the program and of the definition. -/
import Derived.Test.YtcdmapllligjhaaTabR
namespace Go.Proofs.Ytcdmapllligjhaa
open Go Go.RowKit Go.Stg

def badOT (owner tag : Int) : Prop := owner < 1 ∨ 64 < owner ∨ tag < 1 ∨ 255 < tag
instance (owner tag : Int) : Decidable (badOT owner tag) := by unfold badOT; infer_instance
def issEnt (first : Int) (x : TS) (owner tag off len d : Int) : Ent := ⟨packI (pickS x.g.F d) (nextG first (slotN x.g.S (pickS x.g.F d)).1) tag, owner, tag, off, len⟩
def issOk (x : TS) (owner tag : Int) : Prop := ¬ badOT owner tag ∧ 0 < x.g.F.length
instance (x : TS) (owner tag : Int) : Decidable (issOk x owner tag) := by unfold issOk; infer_instance
def issT (first : Int) (x : TS) (owner tag off len d : Int) : TS :=
  if issOk x owner tag then ⟨issG first x.g d, x.E.set (pickS x.g.F d) (issEnt first x owner tag off len d)⟩ else x
def issH (first : Int) (x : TS) (owner tag d : Int) : Int := if issOk x owner tag then (issEnt first x owner tag 0 0 d).h else 0
def issE (x : TS) (owner tag : Int) : Int := if badOT owner tag then 1 else if 0 < x.g.F.length then 0 else 17
def issW (first : Int) (x : TS) (owner tag d : Int) : Value := .tuple #[.int .u64 (issH first x owner tag d), .int .i64 (issE x owner tag)]
theorem isP_ok (p : Int) (w : World) : Calls Try.prog 29 #[.int .i64 p] w fun e w' => e = .returned (.bool (decide (1 ≤ p ∧ p ≤ 64))) ∧ Mod [] w w' := by
  go_enter Try.func29, Try.ntmps29
  by_cases h1 : 1 ≤ p
  · by_cases h2 : p ≤ 64
    · go_wp2_with fail
      go_ret
      exact ⟨by simp [h1, h2], Mod.refl _ _⟩
    · go_wp2_with fail
      go_ret
      exact ⟨by simp [h2], Mod.refl _ _⟩
  · go_wp2_with fail
    go_ret
    exact ⟨by simp; omega, Mod.refl _ _⟩
theorem entN_set {E : List Ent} {j : Nat} (h : j < E.length) (e : Ent) (m : Nat) : entN (E.set j e) m = if m = j then e else entN E m := by
  unfold entN
  simp only [List.getD_eq_getElem?_getD]
  by_cases hm : m = j
  · subst hm; simp [h]
  · rw [if_neg hm, List.getElem?_set_ne (Ne.symm hm)]
section
variable {n : Nat} {first : Int} {x : TS} (h : TInv n first x) (hf1 : 1 ≤ first) (hf2 : first ≤ 4294967295) (hn : n ≤ 4096)
include h hf1 hf2
theorem nextG_in (hp : 0 < x.g.F.length) (d : Int) : 1 ≤ nextG first (slotN x.g.S (pickS x.g.F d)).1 ∧ nextG first (slotN x.g.S (pickS x.g.F d)).1 ≤ 4294967295 := by
  obtain ⟨_, _, _, _, _, _, hg0, hg1, hsl⟩ := h.g.pick hf1 hf2 hp d
  rw [hsl]
  unfold nextG
  split <;> omega
theorem TInv.issue (owner tag off len d : Int) : TInv n first (issT first x owner tag off len d) := by
  unfold issT
  by_cases hk : issOk x owner tag
  · rw [if_pos hk]
    obtain ⟨hb, hp⟩ := hk
    obtain ⟨hi, hj, hp', hF, hjn, hd, hg0, hg1, hsl⟩ := h.g.pick hf1 hf2 hp d
    have hjE : pickS x.g.F d < x.E.length := by rw [h.len]; exact hjn
    refine ⟨h.g.issue hf1 hf2 d, by rw [List.length_set]; exact h.len, fun m hm hl => ?_⟩
    simp only [issG_some hp] at hl ⊢
    rw [slotN_set hj] at hl ⊢
    rw [entN_set hjE]
    by_cases e : m = pickS x.g.F d
    · rw [if_pos e, if_pos e]
      unfold badOT at hb
      refine ⟨by unfold issEnt; simp only; omega, ?_⟩
      rw [e]; rfl
    · rw [if_neg e] at hl
      rw [if_neg e, if_neg e]
      exact h.ok m hm hl
  · rw [if_neg hk]; exact h
theorem Agree.issue {E : List Ent} (hA : Agree x E) (owner tag off len d : Int) (hk : issOk x owner tag) : Agree (issT first x owner tag off len d) (E.set (pickS x.g.F d) (issEnt first x owner tag off len d)) := by
  unfold issT
  rw [if_pos hk]
  obtain ⟨hi, hj, hp', hF, hjn, hd, hg0, hg1, hsl⟩ := h.g.pick hf1 hf2 hk.2 d
  have hjE : pickS x.g.F d < x.E.length := by rw [h.len]; exact hjn
  refine ⟨by simp [hA.1], fun m hl => ?_⟩
  simp only [issG_some hk.2] at hl
  rw [slotN_set hj] at hl
  rw [entN_set hjE, entN_set (by rw [hA.1]; exact hjE)]
  by_cases e : m = pickS x.g.F d
  · rw [if_pos e, if_pos e]
  · rw [if_neg e] at hl
    rw [if_neg e, if_neg e]
    exact hA.2 m hl
end
def tabC (tb : Nat) (ev : Value) (b pb : Nat) (sl : Value) (first : Int) (x : TS) : Comp :=
  ⟨fun w f => ∃ E, Agree x E ∧ Hold (tabP tb ev b pb sl first x E) w f, fun ⟨E, hA, h⟩ hm hT => ⟨E, hA, h.keep hm hT⟩, fun ⟨_, _, h⟩ => h.lt⟩
def rtabC (tb : Nat) (ev : Value) (b : Nat) (gv lv : Value) (first : Int) (x : TS) : Comp :=
  ⟨fun w f => ∃ E, Agree x E ∧ Hold (rtabP tb ev b gv lv first x E) w f, fun ⟨E, hA, h⟩ hm hT => ⟨E, hA, h.keep hm hT⟩, fun ⟨_, _, h⟩ => h.lt⟩
section
variable {w : World} {n : Nat} {first : Int} {x : TS} (hI : TInv n first x) (hn : n ≤ 4096) (hf1 : 1 ≤ first) (hf2 : first ≤ 4294967295) (owner tag off len d : Int) (hd : 0 ≤ d) (hd2 : d ≤ 18446744073709551615) {f : List Nat} {tb b : Nat} {ev : Value}
include hI hn hf1 hf2 hd hd2
set_option maxHeartbeats 1000000 in
theorem tissue_ok {pb : Nat} {sl : Value} (hc : (tabC tb ev b pb sl first x).on w f) :
    Calls Try.prog 10 #[.pointer (some ⟨tb, 0, none⟩), .int .i64 owner, .int .i64 tag, .agg #[.int .i64 off, .int .i64 len], .int .u64 d] w
      (Takes (tabC tb ev b pb sl first (issT first x owner tag off len d)) (issW first x owner tag d) w f) := by
  obtain ⟨E, hA, hH⟩ := hc
  have hS := (Scene.start hH).alloc (.cells #[.int .i64 off, .int .i64 len] 33 (0, 0))
  have hSH := Lib.hid hS
  have hAk := Lib.hid fun hk => hA.issue hI hf1 hf2 owner tag off len d hk
  have hfin0 : ∀ w', Scene f w (blockC w.heap.size (.cells #[.int .i64 off, .int .i64 len] 33 (0, 0)) :: tabP tb ev b pb sl first x E) w' → ∀ v, Takes (tabC tb ev b pb sl first x) v w f (.returned v) w' := fun w' h v => by
    obtain ⟨f', k1, k2, k3⟩ := (h.erase 0).done
    exact ⟨f', rfl, ⟨E, hA, k1⟩, k2, k3⟩
  have hfinH := Lib.hid hfin0
  have hIs := Lib.hid fun w' (h : Scene f w (blockC w.heap.size (.cells #[.int .i64 off, .int .i64 len] 33 (0, 0)) :: tabP tb ev b pb sl first x E) w') => sc_issue hI.g 3 h rfl hf1 hf2 d hd hd2
  clear hA hfin0 hH hS
  by_cases hb : badOT owner tag
  · have hk : ¬ issOk x owner tag := fun h => h.1 hb
    have e1 : issT first x owner tag off len d = x := if_neg hk
    have e2 : issW first x owner tag d = .tuple #[.int .u64 0, .int .i64 1] := by unfold issW issH issE; rw [if_neg hk, if_pos hb]
    rw [e1, e2]
    clear hk e1 e2 hAk hIs hI
    go_enter Try.func10, Try.ntmps10
    go_wp2_with fail
    refine (isP_ok owner _).mono ?_
    rintro e w1 ⟨rfl, hm1⟩
    have hfin := Lib.hid (hfinH.out _ (hSH.out.then hm1))
    clear hfinH hSH
    unfold badOT at hb
    by_cases hp : 1 ≤ owner ∧ owner ≤ 64
    · have ed : decide (1 ≤ owner ∧ owner ≤ 64) = true := by simp [hp]
      rw [ed]
      by_cases ht : tag < 1
      · go_wp2_with fail
        go_ret2
        exact hfin.out _
      · have ht2 : 255 < tag := by omega
        go_wp2_with fail
        go_ret2
        exact hfin.out _
    · have ed : decide (1 ≤ owner ∧ owner ≤ 64) = false := by simp only [decide_eq_false_iff_not]; exact hp
      rw [ed]
      go_wp2_with fail
      go_ret2
      exact hfin.out _
  · have hb' : (1 ≤ owner ∧ owner ≤ 64) ∧ 1 ≤ tag ∧ tag ≤ 255 := by unfold badOT at hb; omega
    have ed : decide (1 ≤ owner ∧ owner ≤ 64) = true := by simp [hb'.1]
    obtain ⟨_, ht1, ht2⟩ := hb'
    by_cases hp : 0 < x.g.F.length
    · have hk : issOk x owner tag := ⟨hb, hp⟩
      have hng := nextG_in hI hf1 hf2 hp d
      obtain ⟨_, hj, _, _, hjn, _⟩ := hI.g.pick hf1 hf2 hp d
      have e1 : issT first x owner tag off len d = ⟨issG first x.g d, x.E.set (pickS x.g.F d) (issEnt first x owner tag off len d)⟩ := if_pos hk
      have e2 : issW first x owner tag d = .tuple #[.int .u64 (packI (pickS x.g.F d) (nextG first (slotN x.g.S (pickS x.g.F d)).1) tag), .int .i64 0] := by unfold issW issH issE; rw [if_pos hk, if_neg hb, if_pos hp]; rfl
      have hA2 := hAk.out hk
      rw [e1] at hA2
      rw [e1, e2]
      rw [issV_some hp] at hIs
      unfold issEnt at *
      have hA2 := Lib.hid hA2
      have hjE : pickS x.g.F d < E.length := by have := hA2.out.1; simp at this; have := hI.len; omega
      obtain ⟨gr, cap, rfl, _, _⟩ := row_pos (hSH.out.row 2 rfl) (by omega)
      clear hk e1 e2 hAk hI hfinH hb
      generalize hjj : pickS x.g.F d = j at *
      generalize hgg : nextG first (slotN x.g.S j).1 = gg at *
      have hP := Lib.hid fun w' => pack_ok j gg tag (by omega) hng (by omega) w'
      go_enter Try.func10, Try.ntmps10
      go_wp2_with fail
      refine (isP_ok owner _).mono ?_
      rintro e w1 ⟨rfl, hm1⟩
      have hS1 := Lib.hid (hSH.out.then hm1)
      clear hSH
      rw [ed]
      go_wp2_with fail
      refine (tlive_ok (hS1.out.block 1 rfl)).mono ?_
      rintro e w2 ⟨rfl, hm2⟩
      have hS2 := Lib.hid (hS1.out.then hm2)
      clear hS1
      go_wp2_with fail
      refine (hIs.out _ hS2.out).mono ?_
      rintro e w3 ⟨rfl, hS3⟩
      have hS3 := Lib.hid hS3
      clear hS2 hIs
      go_wp2_with fail
      refine (hP.out _).mono ?_
      rintro e w4 ⟨rfl, hm4⟩
      have hS4 := Lib.hid (hS3.out.then hm4)
      clear hS3 hP
      go_wp2_with fail
      have k1 := GW.cells (S := []) ((hS4).out.block 1 rfl) (by simp)
      have k2 := GW.cells (S := []) ((hS4).out.block 0 rfl) (by simp)
      refine wp_region_pure (by kernel_rfl) (by kernel_rfl) ?_
      refine stage_quiet 11 (by kernel_rfl) ?_
      simp only [List.take_succ_cons, List.take_zero, List.drop_succ_cons, List.drop_zero]
      repeat (go_big_quiet_step (fail))
      refine wpQuiet_nil ?_
      have hst := fun w' (h : Mod [] (w4) w') => run_storeAt_mid (P := Try.prog) w' gr (j * 5) 39 #[.int .u64 (packI j gg tag), .int .i64 owner, .int .i64 tag, .int .i64 off, .int .i64 len] (row_there ent_length (((hS4).out.then h).row 2 rfl) hjE rfl) (by kernel_rfl) (by simp [Value.oneCell'])
      refine stage_store (p := ⟨gr, j * 5, none⟩) (u := .agg #[.int .u64 (packI j gg tag), .int .i64 owner, .int .i64 tag, .int .i64 off, .int .i64 len]) (fun w' => w'.setCells gr (j * 5) (ent ⟨packI j gg tag, owner, tag, off, len⟩)) rfl rfl (by kernel_rfl) rfl rfl rfl (fun w' hw => hst w' hw) (fun w' hw => ?_)
      have h5 := ((hS4).out.then hw).rowPut ent_length (by omega) 2 rfl hjE ⟨packI j gg tag, owner, tag, off, len⟩
      clear k1 k2 hst
      generalize w'.setCells gr (j * 5) (ent ⟨packI j gg tag, owner, tag, off, len⟩) = w5 at *
      have h5 := Lib.hid h5
      go_wp2_with fail
      go_ret2
      obtain ⟨f', q1, q2, q3⟩ := (h5.out.erase 0).done
      refine ⟨f', rfl, ⟨_, hA2.out, ?_⟩, q2, q3⟩
      unfold tabP
      rw [List.length_set]
      exact q1
    · have hk : ¬ issOk x owner tag := fun h => hp h.2
      have e1 : issT first x owner tag off len d = x := if_neg hk
      have e2 : issW first x owner tag d = .tuple #[.int .u64 0, .int .i64 17] := by unfold issW issH issE; rw [if_neg hk, if_neg hb, if_neg hp]
      have hz : x.g.F = [] := List.length_eq_zero_iff.1 (by omega)
      rw [e1, e2]
      rw [issV_none hz, issG_none hz] at hIs
      clear hk e1 e2 hAk hI hb
      go_enter Try.func10, Try.ntmps10
      go_wp2_with fail
      refine (isP_ok owner _).mono ?_
      rintro e w1 ⟨rfl, hm1⟩
      have hS1 := Lib.hid (hSH.out.then hm1)
      clear hSH
      rw [ed]
      go_wp2_with fail
      refine (tlive_ok (hS1.out.block 1 rfl)).mono ?_
      rintro e w2 ⟨rfl, hm2⟩
      have hS2 := Lib.hid (hS1.out.then hm2)
      clear hS1
      go_wp2_with fail
      refine (hIs.out _ hS2.out).mono ?_
      rintro e w3 ⟨rfl, hS3⟩
      have hfin := Lib.hid (hfinH.out _ hS3)
      clear hS2 hIs hfinH hS3
      go_wp2_with fail
      go_ret2
      exact hfin.out _
set_option maxHeartbeats 1000000 in
theorem rtissue_ok {gv lv : Value} (hc : (rtabC tb ev b gv lv first x).on w f) :
    Calls Try.prog 40 #[.pointer (some ⟨tb, 0, none⟩), .int .i64 owner, .int .i64 tag, .agg #[.int .i64 off, .int .i64 len], .int .u64 d] w
      (Takes (rtabC tb ev b gv lv first (issT first x owner tag off len d)) (issW first x owner tag d) w f) := by
  obtain ⟨E, hA, hH⟩ := hc
  have hS := (Scene.start hH).alloc (.cells #[.int .i64 off, .int .i64 len] 33 (0, 0))
  have hSH := Lib.hid hS
  have hAk := Lib.hid fun hk => hA.issue hI hf1 hf2 owner tag off len d hk
  have hfin0 : ∀ w', Scene f w (blockC w.heap.size (.cells #[.int .i64 off, .int .i64 len] 33 (0, 0)) :: rtabP tb ev b gv lv first x E) w' → ∀ v, Takes (rtabC tb ev b gv lv first x) v w f (.returned v) w' := fun w' h v => by
    obtain ⟨f', k1, k2, k3⟩ := (h.erase 0).done
    exact ⟨f', rfl, ⟨E, hA, k1⟩, k2, k3⟩
  have hfinH := Lib.hid hfin0
  have hIs := Lib.hid fun w' (h : Scene f w (blockC w.heap.size (.cells #[.int .i64 off, .int .i64 len] 33 (0, 0)) :: rtabP tb ev b gv lv first x E) w') => sc_rissue hI.g 3 h rfl hn hf1 hf2 d hd hd2
  clear hA hfin0 hH hS
  by_cases hb : badOT owner tag
  · have hk : ¬ issOk x owner tag := fun h => h.1 hb
    have e1 : issT first x owner tag off len d = x := if_neg hk
    have e2 : issW first x owner tag d = .tuple #[.int .u64 0, .int .i64 1] := by unfold issW issH issE; rw [if_neg hk, if_pos hb]
    rw [e1, e2]
    clear hk e1 e2 hAk hIs hI
    go_enter Try.func40, Try.ntmps40
    have hfin := Lib.hid (hfinH.out _ hSH.out)
    clear hfinH hSH
    unfold badOT at hb
    rcases show owner < 1 ∨ (1 ≤ owner ∧ 64 < owner) ∨ (1 ≤ owner ∧ owner ≤ 64 ∧ tag < 1) ∨ (1 ≤ owner ∧ owner ≤ 64 ∧ 1 ≤ tag ∧ 255 < tag) by omega with c1 | ⟨c1, c2⟩ | ⟨c1, c2, c3⟩ | ⟨c1, c2, c3, c4⟩
    all_goals
      clear hb
      go_wp2_with fail
      go_ret2
      exact hfin.out _
  · have hb' : (1 ≤ owner ∧ owner ≤ 64) ∧ 1 ≤ tag ∧ tag ≤ 255 := by unfold badOT at hb; omega
    have ed : decide (1 ≤ owner ∧ owner ≤ 64) = true := by simp [hb'.1]
    obtain ⟨hO, ht1, ht2⟩ := hb'
    by_cases hp : 0 < x.g.F.length
    · have hk : issOk x owner tag := ⟨hb, hp⟩
      have hng := nextG_in hI hf1 hf2 hp d
      obtain ⟨_, hj, _, _, hjn, _⟩ := hI.g.pick hf1 hf2 hp d
      have e1 : issT first x owner tag off len d = ⟨issG first x.g d, x.E.set (pickS x.g.F d) (issEnt first x owner tag off len d)⟩ := if_pos hk
      have e2 : issW first x owner tag d = .tuple #[.int .u64 (packI (pickS x.g.F d) (nextG first (slotN x.g.S (pickS x.g.F d)).1) tag), .int .i64 0] := by unfold issW issH issE; rw [if_pos hk, if_neg hb, if_pos hp]; rfl
      have hA2 := hAk.out hk
      rw [e1] at hA2
      rw [e1, e2]
      rw [issV_some hp] at hIs
      unfold issEnt at *
      have hA2 := Lib.hid hA2
      have hjE : pickS x.g.F d < E.length := by have := hA2.out.1; simp at this; have := hI.len; omega
      obtain ⟨gr, cap, rfl, _, _⟩ := row_pos (hSH.out.row 2 rfl) (by omega)
      clear hk e1 e2 hAk hI hfinH hb
      generalize hjj : pickS x.g.F d = j at *
      generalize hgg : nextG first (slotN x.g.S j).1 = gg at *
      have hP := Lib.hid fun w' => rpack_ok j gg tag (by omega) hng (by omega) w'
      go_enter Try.func40, Try.ntmps40
      have hS2 := hSH
      obtain ⟨hO1, hO2⟩ := hO
      have hcb := cells_of (hS2.out.block 1 rfl)
      clear hSH ed
      go_wp2_with fail
      refine (hIs.out _ hS2.out).mono ?_
      rintro e w3 ⟨rfl, hS3⟩
      have hS3 := Lib.hid hS3
      clear hS2 hIs
      go_wp2_with fail
      refine (hP.out _).mono ?_
      rintro e w4 ⟨rfl, hm4⟩
      have hS4 := Lib.hid (hS3.out.then hm4)
      clear hS3 hP
      go_wp2_with fail
      have k1 := GW.cells (S := []) ((hS4).out.block 1 rfl) (by simp)
      have k2 := GW.cells (S := []) ((hS4).out.block 0 rfl) (by simp)
      refine wp_region_pure (by kernel_rfl) (by kernel_rfl) ?_
      refine stage_quiet 11 (by kernel_rfl) ?_
      simp only [List.take_succ_cons, List.take_zero, List.drop_succ_cons, List.drop_zero]
      repeat (go_big_quiet_step (fail))
      refine wpQuiet_nil ?_
      have hst := fun w' (h : Mod [] (w4) w') => run_storeAt_mid (P := Try.prog) w' gr (j * 5) 39 #[.int .u64 (packI j gg tag), .int .i64 owner, .int .i64 tag, .int .i64 off, .int .i64 len] (row_there ent_length (((hS4).out.then h).row 2 rfl) hjE rfl) (by kernel_rfl) (by simp [Value.oneCell'])
      refine stage_store (p := ⟨gr, j * 5, none⟩) (u := .agg #[.int .u64 (packI j gg tag), .int .i64 owner, .int .i64 tag, .int .i64 off, .int .i64 len]) (fun w' => w'.setCells gr (j * 5) (ent ⟨packI j gg tag, owner, tag, off, len⟩)) rfl rfl (by kernel_rfl) rfl rfl rfl (fun w' hw => hst w' hw) (fun w' hw => ?_)
      have h5 := ((hS4).out.then hw).rowPut ent_length (by omega) 2 rfl hjE ⟨packI j gg tag, owner, tag, off, len⟩
      clear k1 k2 hst
      generalize w'.setCells gr (j * 5) (ent ⟨packI j gg tag, owner, tag, off, len⟩) = w5 at *
      have h5 := Lib.hid h5
      go_wp2_with fail
      go_ret2
      obtain ⟨f', q1, q2, q3⟩ := (h5.out.erase 0).done
      refine ⟨f', rfl, ⟨_, hA2.out, ?_⟩, q2, q3⟩
      unfold rtabP
      rw [List.length_set]
      exact q1
    · have hk : ¬ issOk x owner tag := fun h => hp h.2
      have e1 : issT first x owner tag off len d = x := if_neg hk
      have e2 : issW first x owner tag d = .tuple #[.int .u64 0, .int .i64 17] := by unfold issW issH issE; rw [if_neg hk, if_neg hb, if_neg hp]
      have hz : x.g.F = [] := List.length_eq_zero_iff.1 (by omega)
      rw [e1, e2]
      rw [issV_none hz, issG_none hz] at hIs
      clear hk e1 e2 hAk hI hb
      go_enter Try.func40, Try.ntmps40
      have hS2 := hSH
      obtain ⟨hO1, hO2⟩ := hO
      have hcb := cells_of (hS2.out.block 1 rfl)
      clear hSH ed
      go_wp2_with fail
      refine (hIs.out _ hS2.out).mono ?_
      rintro e w3 ⟨rfl, hS3⟩
      have hfin := Lib.hid (hfinH.out _ hS3)
      clear hS2 hIs hfinH hS3
      go_wp2_with fail
      go_ret2
      exact hfin.out _
end
end Go.Proofs.Ytcdmapllligjhaa
