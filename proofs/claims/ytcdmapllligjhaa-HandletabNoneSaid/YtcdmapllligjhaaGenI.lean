/- Generations: Issue, End. -/
import Derived.Test.YtcdmapllligjhaaGen
namespace Go.Proofs.Ytcdmapllligjhaa
open Go Go.RowKit Go.Stg

/-- Behind a call that changed slots. -/
def GenPost (v : Value) (b : Nat) (first : Int) (S' : List Slot) (F' : List Int) (ret' : Int) (sl psv : Value) (pb : Nat) (w : World) (e : Ending) (w' : World) : Prop :=
  ∃ psv', e = .returned v ∧ Mod (gfoot b pb sl psv) w w' ∧ GenAt w' b first S' F' ret' sl psv' pb ∧ ∀ x, psv'.ownBlock = some x → psv.ownBlock = some x ∨ w.heap.size ≤ x
theorem gfoot_pool {b pb : Nat} {sl psv : Value} : ∀ x ∈ pb :: psv.ownBlock.toList, x ∈ gfoot b pb sl psv := fun x hx => by
  rcases List.mem_cons.1 hx with rfl | hx
  · simp [gfoot]
  · simp only [gfoot, List.mem_cons, List.mem_append]; exact .inr (.inr (.inr hx))
section
variable {w : World} {b pb : Nat} {first ret : Int} {S : List Slot} {F : List Int} {sl psv : Value} (h : GenAt w b first S F ret sl psv pb)
include h
theorem issue_none (hF : F = []) (d : Int) : Calls Try.prog 31 #[.pointer (some ⟨b, 0, none⟩), .int .u64 d] w fun e w' => e = .returned (.tuple #[.int .i64 0, .int .i64 0, .int .i64 17]) ∧ Mod [] w w' := by
  subst hF
  have hcb := cells_of h.blk
  have hT := Lib.hid (TakeI_none d pb psv w h.pool)
  clear h
  go_enter Try.func31, Try.ntmps31
  go_wp2_with fail
  refine hT.out.mono ?_
  rintro e w1 ⟨rfl, hm1⟩
  go_wp2_with fail
  exact bodyPost_ret (v := .tuple #[.int .i64 0, .int .i64 0, .int .i64 17]) (by simp [results, Try.results31, go_sem]) rfl ⟨rfl, hm1⟩
set_option maxHeartbeats 1000000 in
theorem issue_some (d : Int) (hd : 0 ≤ d) (hd2 : d ≤ 18446744073709551615) (hn : 0 < F.length) (i : Nat) (hi : d % F.length = i) (hil : i < F.length) (j : Nat) (hj : F[i] = j) (hjl : j < S.length) (hg0 : 0 ≤ S[j].1) (hg1 : S[j].1 < 4294967295) (g' : Int) (hg' : (S[j].1 = 0 ∧ g' = first) ∨ (S[j].1 ≠ 0 ∧ g' = S[j].1 + 1)) :
    Calls Try.prog 31 #[.pointer (some ⟨b, 0, none⟩), .int .u64 d] w (GenPost (.tuple #[.int .i64 j, .int .i64 g', .int .i64 0]) b first (S.set j (g', true)) (takeAt F i hn) ret sl psv pb w) := by
  have hcb := cells_of h.blk
  have hT := Lib.hid (TakeI_some d hd hd2 pb psv F w h.pool hn i hi hil)
  rw [hj] at hT
  have hbl := lt_of h.blk
  obtain ⟨g, cap, rfl, _, hg⟩ := row_pos h.row (by omega)
  go_enter Try.func31, Try.ntmps31
  go_wp2_with fail
  refine hT.out.mono ?_
  rintro e w1 ⟨psv', rfl, hm1, hp1, hs1⟩
  have hbn : b ∉ pb :: psv.ownBlock.toList := fun hx => by
    rcases List.mem_cons.1 hx with e | hx
    · exact h.n1 e
    · exact h.n3.1 (by simpa using hx)
  have hgn : g ∉ pb :: psv.ownBlock.toList := fun hx => by
    rcases List.mem_cons.1 hx with e | hx
    · exact h.n2.2 (by rw [← e]; rfl)
    · exact h.n3.2 g rfl (by simpa using hx)
  have b1 := hm1.at h.blk hbn
  have r1 := row_mod h.row hm1 (fun x hx => by have hx' : some g = some x := hx; obtain rfl := Option.some.inj hx'; exact hgn)
  have c1 := (r1.cellAt (j * 2) (by omega)).trans (gcells_at S j hjl).1
  have c2 := (r1.cellAt (j * 2 + 1) (by omega)).trans (gcells_at S j hjl).2
  have f1 := r1.frozenAt (j * 2)
  have f2 := r1.frozenAt (j * 2 + 1)
  have hcb1 := cells_of b1
  clear hcb hT
  obtain ⟨n1, n2, n3⟩ := (⟨h.n1, h.n2, h.n3⟩ : _ ∧ _ ∧ _)
  clear h
  have hgb : g ≠ b := fun e => n2.1 (by rw [e]; rfl)
  have hps : ∀ x, psv'.ownBlock = some x → x ≠ b ∧ x ≠ g := fun x hx => by
    rcases hs1 x hx with h | h
    · exact ⟨fun e => n3.1 (by rw [h, e]), fun e => n3.2 g rfl (by rw [h, e])⟩
    · exact ⟨by omega, by omega⟩
  have hgl := hm1.lt hg
  have fin : ∀ (u : Int) (W3 : World), Mod [g] w1 W3 → W3.ownsRow 0 110 2 (.slice (some ⟨g, 0, none⟩) S.length cap) S.length (gcells (S.set j (u, true))) → ∀ w4, Mod [] W3 w4 → GenPost (.tuple #[.int .i64 j, .int .i64 u, .int .i64 0]) b first (S.set j (u, true)) (takeAt F i hn) ret (.slice (some ⟨g, 0, none⟩) S.length cap) psv pb w (.returned (.tuple #[.int .i64 j, .int .i64 u, .int .i64 0])) w4 := by
    intro u W3 hmW hrW w4 hm4
    have hm5 := hmW.nil_then hm4
    refine ⟨psv', rfl, (hm1.mono gfoot_pool).trans (hm5.mono (fun x hx => by rw [List.mem_singleton.1 hx]; simp [gfoot, Value.ownBlock])), ⟨hm5.at b1 (by simpa using Ne.symm hgb), ?_, hp1.mod hm5 (fun x hx hxg => ?_), n1, n2, ⟨fun e => (hps b e).1 rfl, fun x hx e => ?_⟩⟩, hs1⟩
    · rw [List.length_set]
      exact row_mod hrW hm4 (by simp)
    · rw [List.mem_singleton.1 hxg] at hx
      rcases List.mem_cons.1 hx with e | hx
      · exact n2.2 (by rw [← e]; rfl)
      · exact (hps g (by simpa using hx)).2 rfl
    · have hx' : some g = some x := hx
      obtain rfl := Option.some.inj hx'
      exact (hps g e).2 rfl
  have finH := Lib.hid fin
  clear fin
  rcases hg' with ⟨hz, rfl⟩ | ⟨hz, rfl⟩
  · rw [hz] at c1
    clear hg0 hg1 hz
    have b2 := at_setCell_other (a := ⟨g, j * 2, none⟩) (v := .int .i64 1) b1 (Ne.symm hgb)
    have hcb2 := cells_of b2
    have r3 := (((r1.stored (j * 2) (.int .i64 1)).1.stored (j * 2) (.int .i64 g')).1.stored (j * 2 + 1) (.bool true)).1
    rw [List.set_set, gcells_set S j g' true hjl] at r3
    have hmW := (((Mod.refl [g] w1).setCell (p := ⟨g, j * 2, none⟩) (.inl (by simp)) (.int .i64 1)).setCell (p := ⟨g, j * 2, none⟩) (.inl (by simp)) (.int .i64 g')).setCell (p := ⟨g, j * 2 + 1, none⟩) (.inl (by simp)) (.bool true)
    have hfin := Lib.hid (finH.out g' _ hmW r3)
    have c3 := (r3.cellAt (j * 2) (by omega)).trans (gcells_at (S.set j (g', true)) j (by simpa using hjl)).1
    simp only [List.getElem_set_self] at c3
    go_wp2_with fail
    have hglW := hmW.lt hgl
    clear r3 hmW
    generalize ((w1.setCell ⟨g, j * 2, none⟩ (.int .i64 1)).setCell ⟨g, j * 2, none⟩ (.int .i64 g')).setCell ⟨g, j * 2 + 1, none⟩ (.bool true) = W3 at *
    have k1 := GW.cell1 (S := []) c3 hglW (by simp)
    refine wp_region_pure (by kernel_rfl) (by kernel_rfl) ?_
    refine stage_quiet 8 (by kernel_rfl) ?_
    simp only [List.take_succ_cons, List.take_zero, List.drop_succ_cons, List.drop_zero]
    repeat (go_big_quiet_step (fail))
    refine wpQuiet_nil ?_
    refine stage_nil fun w4 hm4 => ?_
    go_wp2_with fail
    exact bodyPost_ret (v := .tuple #[.int .i64 j, .int .i64 g', .int .i64 0]) (by simp [results, Try.results31, go_sem]) rfl (hfin.out w4 hm4)
  · have r3 := ((r1.stored (j * 2) (.int .i64 (S[j].1 + 1))).1.stored (j * 2 + 1) (.bool true)).1
    rw [gcells_set S j _ true hjl] at r3
    have hmW := ((Mod.refl [g] w1).setCell (p := ⟨g, j * 2, none⟩) (.inl (by simp)) (.int .i64 (S[j].1 + 1))).setCell (p := ⟨g, j * 2 + 1, none⟩) (.inl (by simp)) (.bool true)
    have hfin := Lib.hid (finH.out (S[j].1 + 1) _ hmW r3)
    have c3 := (r3.cellAt (j * 2) (by omega)).trans (gcells_at (S.set j (S[j].1 + 1, true)) j (by simpa using hjl)).1
    simp only [List.getElem_set_self] at c3
    generalize S[j].1 = ge at *
    have hz2 : (ge + 1 == 1) = false := by simp only [beq_eq_false_iff_ne]; omega
    go_wp2_with fail
    have hglW := hmW.lt hgl
    clear r3 hmW
    generalize (w1.setCell ⟨g, j * 2, none⟩ (.int .i64 (ge + 1))).setCell ⟨g, j * 2 + 1, none⟩ (.bool true) = W3 at *
    have k1 := GW.cell1 (S := []) c3 hglW (by simp)
    refine wp_region_pure (by kernel_rfl) (by kernel_rfl) ?_
    refine stage_quiet 8 (by kernel_rfl) ?_
    simp only [List.take_succ_cons, List.take_zero, List.drop_succ_cons, List.drop_zero]
    repeat (go_big_quiet_step (fail))
    refine wpQuiet_nil ?_
    refine stage_nil fun w4 hm4 => ?_
    go_wp2_with fail
    exact bodyPost_ret (v := .tuple #[.int .i64 j, .int .i64 (ge + 1), .int .i64 0]) (by simp [results, Try.results31, go_sem]) rfl (hfin.out w4 hm4)
theorem end_dead (k : Int) (hl : liveV S k = .tuple #[.int .i64 0, .bool false]) : Calls Try.prog 34 #[.pointer (some ⟨b, 0, none⟩), .int .i64 k] w fun e w' => e = .returned (.int .i64 6) ∧ Mod [] w w' := by
  have hL := Lib.hid (live_ok h k)
  rw [hl] at hL
  clear h
  go_enter Try.func34, Try.ntmps34
  go_wp2_with fail
  refine hL.out.mono ?_
  rintro e w1 ⟨rfl, hm1⟩
  go_wp2_with fail
  go_ret
  exact ⟨rfl, hm1⟩
set_option maxHeartbeats 1000000 in
theorem end_live (j : Nat) (hjl : j < S.length) (ge : Int) (hs : S[j] = (ge, true)) (r' : Int) (F' : List Int) (hr0 : 0 ≤ ret) (hr1 : ret ≤ 1000000) (hF : F.length < 1000000) (hcase : (ge = 4294967295 ∧ r' = ret + 1 ∧ F' = F) ∨ (ge ≠ 4294967295 ∧ r' = ret ∧ F' = F ++ [(j : Int)])) :
    Calls Try.prog 34 #[.pointer (some ⟨b, 0, none⟩), .int .i64 j] w (GenPost (.int .i64 0) b first (S.set j (ge, false)) F' r' sl psv pb w) := by
  have hL := Lib.hid (live_ok h j)
  have hV : liveV S j = .tuple #[.int .i64 ge, .bool true] := by
    unfold liveV
    simp only [if_pos (show (0 : Int) ≤ j by omega), Int.toNat_natCast, List.getElem?_eq_getElem hjl, hs]
  rw [hV] at hL
  clear hV
  obtain ⟨g, cap, rfl, _, hg⟩ := row_pos h.row (by omega)
  go_enter Try.func34, Try.ntmps34
  go_wp2_with fail
  refine hL.out.mono ?_
  rintro e w1 ⟨rfl, hm1⟩
  have b1 := hm1.at h.blk (by simp)
  have r1 := row_mod h.row hm1 (by simp)
  have p1 := h.pool.mod hm1 (by simp)
  have hcb1 := cells_of b1
  have c2 := (r1.cellAt (j * 2 + 1) (by omega)).trans (gcells_at S j hjl).2
  have f2 := r1.frozenAt (j * 2 + 1)
  rw [hs] at c2
  have hgb : g ≠ b := fun e => h.n2.1 (by rw [e]; rfl)
  have b2 := at_setCell_other (a := ⟨g, j * 2 + 1, none⟩) (v := .bool false) b1 (Ne.symm hgb)
  have hcb2 := cells_of b2
  have hfb2 := frozen_of b2
  have r2 := (r1.stored (j * 2 + 1) (.bool false)).1
  rw [gcells_live S j false hjl, hs] at r2
  have hm2 := (Mod.refl [g] w1).setCell (p := ⟨g, j * 2 + 1, none⟩) (.inl (by simp)) (.bool false)
  have p2 := p1.mod hm2 (fun x hx hxg => by
    rw [List.mem_singleton.1 hxg] at hx
    rcases List.mem_cons.1 hx with e | hx
    · exact h.n2.2 (by rw [← e]; rfl)
    · exact h.n3.2 g rfl (by simpa using hx))
  have hm3 : Mod (gfoot b pb (.slice (some ⟨g, 0, none⟩) S.length cap) psv) w (w1.setCell ⟨g, j * 2 + 1, none⟩ (.bool false)) := (hm1.mono (by simp)).trans (hm2.mono (fun x hx => by rw [List.mem_singleton.1 hx]; simp [gfoot, Value.ownBlock]))
  obtain ⟨n1, n2, n3⟩ := (⟨h.n1, h.n2, h.n3⟩ : _ ∧ _ ∧ _)
  clear h
  clear hL b1 r1 p1
  rcases hcase with ⟨rfl, rfl, rfl⟩ | ⟨hne, rfl, rfl⟩
  · go_wp2_with fail
    go_ret
    have b4 := at_setCell (o := 3) (v := .int .i64 (ret + 1)) b2
    have hm4 := (Mod.refl [b] (w1.setCell ⟨g, j * 2 + 1, none⟩ (.bool false))).setCell (p := ⟨b, 3, none⟩) (.inl (by simp)) (.int .i64 (ret + 1))
    have hpb : ∀ x ∈ pb :: psv.ownBlock.toList, x ∉ [b] := fun x hx hxb => by
      rw [List.mem_singleton.1 hxb] at hx
      rcases List.mem_cons.1 hx with e | hx
      · exact n1 e
      · exact n3.1 (by simpa using hx)
    refine ⟨psv, rfl, hm3.trans (hm4.mono (fun x hx => by rw [List.mem_singleton.1 hx]; simp [gfoot])), ⟨b4, ?_, p2.mod hm4 hpb, n1, n2, n3⟩, fun x hx => .inl hx⟩
    rw [List.length_set]
    exact row_mod r2 hm4 (fun x hx => by have hx' : some g = some x := hx; obtain rfl := Option.some.inj hx'; simpa using hgb)
  · have hne2 : (ge == 4294967295) = false := by simpa using hne
    go_wp2_with fail
    refine (PutI_any j pb psv _ _ p2 (by simpa using hF)).mono ?_
    rintro e w4 ⟨psv', rfl, hm4, hp4, hs4⟩
    go_wp2_with fail
    go_ret
    have hbn : b ∉ pb :: psv.ownBlock.toList := fun hx => by
      rcases List.mem_cons.1 hx with e | hx
      · exact n1 e
      · exact n3.1 (by simpa using hx)
    have hgn : g ∉ pb :: psv.ownBlock.toList := fun hx => by
      rcases List.mem_cons.1 hx with e | hx
      · exact n2.2 (by rw [← e]; rfl)
      · exact n3.2 g rfl (by simpa using hx)
    have hbl := lt_of b2
    have hgl := hm1.lt hg
    have hsz := hm3.size
    have hps : ∀ x, psv'.ownBlock = some x → x ≠ b ∧ x ≠ g := fun x hx => by
      rcases hs4 x hx with h | h
      · exact ⟨fun e => n3.1 (by rw [h, e]), fun e => n3.2 g rfl (by rw [h, e])⟩
      · have := hm2.lt hgl
        exact ⟨by omega, by omega⟩
    refine ⟨psv', rfl, hm3.trans (hm4.mono gfoot_pool), ⟨hm4.at b2 hbn, ?_, by simpa using hp4, n1, n2, ⟨fun e => (hps b e).1 rfl, fun x hx e => ?_⟩⟩, fun x hx => (hs4 x hx).imp id (fun h => by omega)⟩
    · rw [List.length_set]
      exact row_mod r2 hm4 (fun x hx => by have hx' : some g = some x := hx; obtain rfl := Option.some.inj hx'; exact hgn)
    · have hx' : some g = some x := hx
      obtain rfl := Option.some.inj hx'
      exact (hps g e).2 rfl
end
end Go.Proofs.Ytcdmapllligjhaa
