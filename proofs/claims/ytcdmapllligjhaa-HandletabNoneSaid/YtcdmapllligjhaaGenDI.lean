/- Generations: the definition's Issue and End. -/
import Derived.Test.YtcdmapllligjhaaGenD
namespace Go.Proofs.Ytcdmapllligjhaa
open Go Go.RowKit Go.Stg

def RPost (v : Value) (b : Nat) (first : Int) (S' : List Slot) (F' : List Int) (ret' : Int) (gv lv fv : Value) (w : World) (e : Ending) (w' : World) : Prop :=
  ∃ fv', e = .returned v ∧ Mod (rfoot b gv lv fv) w w' ∧ RAt w' b first S' F' ret' gv lv fv' ∧ ∀ x, fv'.ownBlock = some x → fv.ownBlock = some x ∨ w.heap.size ≤ x
theorem gensOf_set {S : List Slot} {j : Nat} (g : Int) (l : Bool) : (gensOf S).set j (.int .i64 g) = gensOf (S.set j (g, l)) := by simp [gensOf, List.map_set]
theorem livesOf_set {S : List Slot} {j : Nat} (g : Int) (l : Bool) : (livesOf S).set j (.bool l) = livesOf (S.set j (g, l)) := by simp [livesOf, List.map_set]
theorem gensOf_same {S : List Slot} {j : Nat} (h : j < S.length) (l : Bool) : gensOf (S.set j ((slotN S j).1, l)) = gensOf S := by
  rw [← gensOf_set, slotN_at h]
  apply List.ext_getElem?
  intro i
  by_cases e : j = i
  · subst e; simp [gensOf, h]
  · rw [List.getElem?_set_ne e]
theorem livesOf_same {S : List Slot} {j : Nat} (h : j < S.length) (g : Int) : livesOf (S.set j (g, (slotN S j).2)) = livesOf S := by
  rw [← livesOf_set, slotN_at h]
  apply List.ext_getElem?
  intro i
  by_cases e : j = i
  · subst e; simp [livesOf, h]
  · rw [List.getElem?_set_ne e]
section
variable {w : World} {b : Nat} {first ret : Int} {S : List Slot} {F : List Int} {gv lv fv : Value} (h : RAt w b first S F ret gv lv fv)
include h
theorem RAt.setFree {sv : Value} {F' : List Int} (hi : IntsAt w sv F') (hb : sv.ownBlock ≠ some b) (hg : ∀ x, gv.ownBlock = some x → sv.ownBlock ≠ some x) (hl : ∀ x, lv.ownBlock = some x → sv.ownBlock ≠ some x) :
    RAt (w.setCell ⟨b, 3, none⟩ sv) b first S F' ret gv lv sv := by
  have hm := (Mod.refl [b] w).setCell (p := ⟨b, 3, none⟩) (.inl (by simp)) sv
  exact ⟨at_setCell h.blk, row_mod h.gen hm (fun x hx hxb => h.n1.1 (by rw [hx, List.mem_singleton.1 hxb])), row_mod h.live hm (fun x hx hxb => h.n1.2.1 (by rw [hx, List.mem_singleton.1 hxb])),
    hi.mod hm (fun x hx hxb => hb (by rw [hx, List.mem_singleton.1 hxb])), ⟨h.n1.1, h.n1.2.1, hb⟩, fun x hx => ⟨(h.n2 x hx).1, hg x hx⟩, hl⟩
theorem RAt.setRet (r : Int) : RAt (w.setCell ⟨b, 4, none⟩ (.int .i64 r)) b first S F r gv lv fv := by
  have hm := (Mod.refl [b] w).setCell (p := ⟨b, 4, none⟩) (.inl (by simp)) (.int .i64 r)
  exact ⟨at_setCell h.blk, row_mod h.gen hm (fun x hx hxb => h.n1.1 (by rw [hx, List.mem_singleton.1 hxb])), row_mod h.live hm (fun x hx hxb => h.n1.2.1 (by rw [hx, List.mem_singleton.1 hxb])),
    h.free.mod hm (fun x hx hxb => h.n1.2.2 (by rw [hx, List.mem_singleton.1 hxb])), h.n1, h.n2, h.n3⟩
theorem RAt.setGen {g cap : Nat} (hgv : gv = .slice (some ⟨g, 0, none⟩) S.length cap) {j : Nat} (hj : j < S.length) (u : Int) :
    RAt (w.setCell ⟨g, j, none⟩ (.int .i64 u)) b first (S.set j (u, (slotN S j).2)) F ret gv lv fv := by
  have ho : gv.ownBlock = some g := by rw [hgv]; rfl
  have hm := (Mod.refl [g] w).setCell (p := ⟨g, j, none⟩) (.inl (by simp)) (.int .i64 u)
  have hr : (w.setCell ⟨g, j, none⟩ (.int .i64 u)).ownsRow 0 3 1 gv S.length ((gensOf S).set j (.int .i64 u)) := by
    have := h.gen; rw [hgv] at this ⊢
    exact (this.stored j _).1
  refine ⟨at_setCell_other h.blk (fun e => h.n1.1 (by rw [ho, e])), ?_, ?_, h.free.mod hm (fun x hx hxb => (h.n2 g ho).2 (by rw [hx, List.mem_singleton.1 hxb])), h.n1, h.n2, h.n3⟩
  · rw [List.length_set, ← gensOf_set]; exact hr
  · rw [List.length_set, livesOf_same hj]
    exact row_mod h.live hm (fun x hx hxb => (h.n2 g ho).1 (by rw [hx, List.mem_singleton.1 hxb]))
theorem RAt.setLive {g cap : Nat} (hlv : lv = .slice (some ⟨g, 0, none⟩) S.length cap) {j : Nat} (hj : j < S.length) (l : Bool) :
    RAt (w.setCell ⟨g, j, none⟩ (.bool l)) b first (S.set j ((slotN S j).1, l)) F ret gv lv fv := by
  have ho : lv.ownBlock = some g := by rw [hlv]; rfl
  have hm := (Mod.refl [g] w).setCell (p := ⟨g, j, none⟩) (.inl (by simp)) (.bool l)
  have hr : (w.setCell ⟨g, j, none⟩ (.bool l)).ownsRow 0 4 1 lv S.length ((livesOf S).set j (.bool l)) := by
    have := h.live; rw [hlv] at this ⊢
    exact (this.stored j _).1
  refine ⟨at_setCell_other h.blk (fun e => h.n1.2.1 (by rw [ho, e])), ?_, ?_, h.free.mod hm (fun x hx hxb => h.n3 g ho (by rw [hx, List.mem_singleton.1 hxb])), h.n1, h.n2, h.n3⟩
  · rw [List.length_set, gensOf_same hj]
    exact row_mod h.gen hm (fun x hx hxb => (h.n2 x hx).1 (by rw [ho, List.mem_singleton.1 hxb]))
  · rw [List.length_set, ← livesOf_set]; exact hr
theorem RAt.genAt {g cap : Nat} (hgv : gv = .slice (some ⟨g, 0, none⟩) S.length cap) {j : Nat} (hj : j < S.length) : w.cell? ⟨g, j, none⟩ = some (.int .i64 (slotN S j).1) ∧ w.frozen? ⟨g, j, none⟩ = false ∧ g < w.heap.size := by
  have := h.gen; rw [hgv] at this
  exact ⟨(this.cellAt j (by omega)).trans (by simp [gensOf, slotN_at hj, hj]), this.frozenAt j, (this.lt g rfl).2⟩
theorem RAt.liveAt {g cap : Nat} (hlv : lv = .slice (some ⟨g, 0, none⟩) S.length cap) {j : Nat} (hj : j < S.length) : w.cell? ⟨g, j, none⟩ = some (.bool (slotN S j).2) ∧ w.frozen? ⟨g, j, none⟩ = false ∧ g < w.heap.size := by
  have := h.live; rw [hlv] at this
  exact ⟨(this.cellAt j (by omega)).trans (by simp [livesOf, slotN_at hj, hj]), this.frozenAt j, (this.lt g rfl).2⟩
end
theorem issV_some {first d : Int} {x : GS} (h : 0 < x.F.length) : issV first x d = .tuple #[.int .i64 (pickS x.F d), .int .i64 (nextG first (slotN x.S (pickS x.F d)).1), .int .i64 0] := if_pos h
theorem issV_none {first d : Int} {x : GS} (h : x.F = []) : issV first x d = .tuple #[.int .i64 0, .int .i64 0, .int .i64 17] := if_neg (by simp [h])
theorem issG_some {first d : Int} {x : GS} (h : 0 < x.F.length) : issG first x d = ⟨x.S.set (pickS x.F d) (nextG first (slotN x.S (pickS x.F d)).1, true), takeAt x.F (pickI x.F d) h, x.ret⟩ := dif_pos h
theorem issG_none {first d : Int} {x : GS} (h : x.F = []) : issG first x d = x := dif_neg (by simp [h])
theorem RPost.same {w : World} {b : Nat} {first ret : Int} {S : List Slot} {F : List Int} {gv lv fv v : Value} (h : RAt w b first S F ret gv lv fv) {w' : World} (hm : Mod [] w w') : RPost v b first S F ret gv lv fv w (.returned v) w' :=
  ⟨fv, rfl, hm.mono (by simp), h.mod hm (by simp), fun x hx => .inl hx⟩
set_option maxHeartbeats 1000000 in
theorem riss_ok {w : World} {b n : Nat} {first : Int} {x : GS} {gv lv fv : Value} (h : RAt w b first x.S x.F x.ret gv lv fv) (hI : GInv n first x) (hn : n ≤ 4096) (hf1 : 1 ≤ first) (hf2 : first ≤ 4294967295) (d : Int) (hd : 0 ≤ d) (hd2 : d ≤ 18446744073709551615) :
    Calls Try.prog 55 #[.pointer (some ⟨b, 0, none⟩), .int .u64 d] w (RPost (issV first x d) b first (issG first x d).S (issG first x d).F (issG first x d).ret gv lv fv w) := by
  have hcb := cells_of h.blk
  have hln := fun ty w' => h.free.len ty w'
  by_cases h0 : x.F = []
  · rw [issV_none h0, issG_none h0]
    rw [h0] at hln
    have hfin := fun w' (hm : Mod [] w w') => RPost.same (v := .tuple #[.int .i64 0, .int .i64 0, .int .i64 17]) h hm
    have hfin := Lib.hid hfin
    clear h hI
    go_enter Try.func55, Try.ntmps55
    go_wp2_with fail
    exact bodyPost_ret (v := .tuple #[.int .i64 0, .int .i64 0, .int .i64 17]) (by simp [results, Try.results55, go_sem]) rfl (hfin.out _ (Mod.refl _ _))
  · have hpos : 0 < x.F.length := List.length_pos_iff.2 h0
    have hcnt := hI.cnt
    have hret := hI.ret0
    have hFl : x.F.length ≤ 4096 := by omega
    rw [issV_some hpos, issG_some hpos]
    obtain ⟨hi, hj, hp, hF, hjn, hd', hg0, hg1, hsl⟩ := hI.pick hf1 hf2 hpos d
    have hng : nextG first (slotN x.S (pickS x.F d)).1 = nextG first (slotN x.S (pickS x.F d)).1 := rfl
    rw [← hsl] at hg0 hg1
    clear hsl hd' hI
    generalize pickI x.F d = i at *
    generalize pickS x.F d = j at *
    obtain ⟨g2, cap2, rfl, _, _⟩ := row_pos h.gen (by omega)
    obtain ⟨g1, cap1, rfl, _, _⟩ := row_pos h.live (by omega)
    rcases x with ⟨S, F, ret⟩
    simp only at *
    have hfr := h.free
    rcases hfr with ⟨_, rfl⟩ | ⟨sb, so, cap, rfl, f2, f3, f4⟩
    · simp at hpos
    · have hT := Lib.hid (RTake_some d hd hd2 sb so cap F w f2 f3 f4 hpos i hp hi)
      rw [hF] at hT
      have hpos' : 0 < F.length := hpos
      have hne0 : ((F.length : Int) == 0) = false := by simp only [beq_eq_false_iff_ne]; omega
      have hbl := lt_of h.blk
      have hfl := h.foot_lt
      have hH := Lib.hid h
      obtain ⟨ge, le, hsl⟩ : ∃ ge le, slotN S j = (ge, le) := ⟨_, _, rfl⟩
      rw [hsl] at hg0 hg1 ⊢
      have hcase : (ge = 0 ∧ nextG first ge = first) ∨ (ge ≠ 0 ∧ nextG first ge = ge + 1) := by
        unfold nextG
        by_cases hz : ge = 0
        · exact .inl ⟨hz, by rw [if_pos hz]⟩
        · exact .inr ⟨hz, by rw [if_neg hz]⟩
      simp only at hg0 hg1 ⊢
      generalize nextG first ge = u at *
      have hslH := Lib.hid hsl
      clear h f4 hsl
      go_enter Try.func55, Try.ntmps55
      go_wp2_with fail
      refine hT.out.mono ?_
      rintro e w1 ⟨sv, rfl, hm1, hi1, hs1⟩
      obtain ⟨sva, svl, svc, rfl⟩ : ∃ a l c, sv = .slice a l c := by
        rcases hi1 with ⟨rfl, _⟩ | ⟨_, _, _, rfl, _⟩ <;> exact ⟨_, _, _, rfl⟩
      have h1 := hH.out.mod hm1 (by simp)
      have hsn : ∀ y, y < w.heap.size → (Value.slice sva svl svc).ownBlock ≠ some y := fun y hy e => by have := hs1 y e; omega
      have h2 := h1.setFree hi1 (hsn b hbl) (fun y hy => hsn y (hfl y (by simp [rfoot, hy]))) (fun y hy => hsn y (hfl y (by simp [rfoot, hy])))
      have hcb1 := cells_of h1.blk
      have hfb1 := frozen_of h1.blk
      have hm2 := (hm1.mono (T := rfoot b (.slice (some ⟨g2, 0, none⟩) S.length cap2) (.slice (some ⟨g1, 0, none⟩) S.length cap1) (.slice (some ⟨sb, so, none⟩) F.length cap)) (by simp)).setCell (p := ⟨b, 3, none⟩) (.inl (by simp [rfoot])) (.slice sva svl svc)
      clear hT hcb
      have hcb2 := cells_of h2.blk
      obtain ⟨c2, z2, l2⟩ := h2.genAt rfl hj
      rw [hslH.out] at c2
      simp only at c2
      rcases hcase with ⟨hz, hu⟩ | ⟨hz, hu⟩
      · obtain rfl : first = u := hu.symm
        subst hz
        clear hu
        go_wp2_with fail
        have k1 := GW.cell1 (S := []) c2 l2 (by simp)
        have k2 := GW.cells (S := []) h2.blk (by simp)
        clear c2
        refine wp_region_pure (by kernel_rfl) (by kernel_rfl) ?_
        refine stage_quiet 10 (by kernel_rfl) ?_
        simp only [List.take_succ_cons, List.take_zero, List.drop_succ_cons, List.drop_zero]
        repeat (go_big_quiet_step (fail))
        refine wpQuiet_nil ?_
        refine stage_store (p := ⟨g2, j, none⟩) (u := .int .i64 first) (fun w' => w'.setCell ⟨g2, j, none⟩ (.int .i64 first)) rfl rfl (by kernel_rfl) rfl rfl rfl (fun w' hw => ?_) (fun w' hw => ?_)
        · obtain ⟨c5, z5, l5⟩ := (h2.mod hw (by simp)).genAt rfl hj
          clear k1 k2 z2
          go_simp
        · have h3 := (h2.mod hw (by simp)).setGen rfl hj first
          rw [hslH.out] at h3
          have hm3 := (hm2.nil_then hw).setCell (p := ⟨g2, j, none⟩) (.inl (by simp [rfoot, Value.ownBlock])) (.int .i64 first)
          clear h2 hm2 hw k1 k2 z2 hcb1 hcb2 hfb1
          generalize w'.setCell ⟨g2, j, none⟩ (.int .i64 first) = w3 at *
          have hj3 : j < (S.set j (first, le)).length := by simpa using hj
          obtain ⟨c3, z3, l3⟩ := h3.liveAt (by rw [List.length_set]) hj3
          have hcb3 := cells_of h3.blk
          have h4 := h3.setLive (by rw [List.length_set]) hj3 true
          rw [slotN_set hj, if_pos rfl, List.set_set] at h4
          have hm4 := hm3.setCell (p := ⟨g1, j, none⟩) (.inl (by simp [rfoot, Value.ownBlock])) (.bool true)
          have h4H := Lib.hid h4
          have hm4H := Lib.hid hm4
          clear h4 hm4 hm3 h3
          go_wp2_with fail
          clear hcb3 c3 z3
          have h4 := h4H.out
          have hm4 := hm4H.out
          clear h4H hm4H
          generalize w3.setCell ⟨g1, j, none⟩ (.bool true) = w4 at *
          obtain ⟨c4, z4, l4⟩ := h4.genAt (by rw [List.length_set]) (j := j) (by simpa using hj)
          rw [slotN_set hj, if_pos rfl] at c4
          have k1 := GW.cell1 (S := []) c4 l4 (by simp)
          have k2 := GW.cells (S := []) h4.blk (by simp)
          clear c4 z4
          refine wp_region_pure (by kernel_rfl) (by kernel_rfl) ?_
          refine stage_quiet 11 (by kernel_rfl) ?_
          simp only [List.take_succ_cons, List.take_zero, List.drop_succ_cons, List.drop_zero]
          repeat (go_big_quiet_step (fail))
          refine wpQuiet_nil ?_
          refine stage_nil fun w5 hm5 => ?_
          clear k1 k2
          go_wp2_with fail
          exact bodyPost_ret (v := .tuple #[.int .i64 j, .int .i64 (first), .int .i64 0]) (by simp [results, Try.results55, go_sem]) rfl ⟨_, rfl, hm4.nil_then hm5, h4.mod hm5 (by simp), fun y hy => .inr (hs1 y hy)⟩
      · have hz2 : (ge == 0) = false := by simp only [beq_eq_false_iff_ne]; omega
        subst hu
        have h3 := h2.setGen rfl hj (ge + 1)
        rw [hslH.out] at h3
        have hm3 := hm2.setCell (p := ⟨g2, j, none⟩) (.inl (by simp [rfoot, Value.ownBlock])) (.int .i64 (ge + 1))
        clear h2 hm2
        have hj3 : j < (S.set j (ge + 1, le)).length := by simpa using hj
        obtain ⟨c3, z3, l3⟩ := h3.liveAt (by rw [List.length_set]) hj3
        have hcb3 := cells_of h3.blk
        have h4 := h3.setLive (by rw [List.length_set]) hj3 true
        rw [slotN_set hj, if_pos rfl, List.set_set] at h4
        have hm4 := hm3.setCell (p := ⟨g1, j, none⟩) (.inl (by simp [rfoot, Value.ownBlock])) (.bool true)
        have h4H := Lib.hid h4
        have hm4H := Lib.hid hm4
        clear h4 hm4 hm3 h3
        go_wp2_with fail
        clear hcb3 c3 z3
        have h4 := h4H.out
        have hm4 := hm4H.out
        clear h4H hm4H
        clear hcb1 hcb2 hfb1 c2 z2 l2 l3
        generalize ((w1.setCell ⟨b, 3, none⟩ (.slice sva svl svc)).setCell ⟨g2, j, none⟩ (.int .i64 (ge + 1))).setCell ⟨g1, j, none⟩ (.bool true) = w4 at *
        obtain ⟨c4, z4, l4⟩ := h4.genAt (by rw [List.length_set]) (j := j) (by simpa using hj)
        rw [slotN_set hj, if_pos rfl] at c4
        have k1 := GW.cell1 (S := []) c4 l4 (by simp)
        have k2 := GW.cells (S := []) h4.blk (by simp)
        clear c4 z4
        refine wp_region_pure (by kernel_rfl) (by kernel_rfl) ?_
        refine stage_quiet 11 (by kernel_rfl) ?_
        simp only [List.take_succ_cons, List.take_zero, List.drop_succ_cons, List.drop_zero]
        repeat (go_big_quiet_step (fail))
        refine wpQuiet_nil ?_
        refine stage_nil fun w5 hm5 => ?_
        clear k1 k2
        go_wp2_with fail
        exact bodyPost_ret (v := .tuple #[.int .i64 j, .int .i64 (ge + 1), .int .i64 0]) (by simp [results, Try.results55, go_sem]) rfl ⟨_, rfl, hm4.nil_then hm5, h4.mod hm5 (by simp), fun y hy => .inr (hs1 y hy)⟩
end Go.Proofs.Ytcdmapllligjhaa
