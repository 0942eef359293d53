/- Generations: slots and the definition's slots side by side. -/
import Derived.Test.YtgoiifffpdednaaGenDN
import Derived.Test.YtgoiifffpdednaaScene
namespace Go.Proofs.Ytgoiifffpdednaa
open Go Go.RowKit Go.Stg

def genC (b pb : Nat) (sl : Value) (first : Int) (x : GS) : Comp :=
  ⟨fun w f => ∃ psv, GenAt w b first x.S x.F x.ret sl psv pb ∧ f = gfoot b pb sl psv, fun ⟨psv, h, e⟩ hm hT => ⟨psv, h.mod hm (e ▸ hT), e⟩, fun ⟨_, h, e⟩ x hx => h.foot_lt x (e ▸ hx)⟩
def rgenC (b : Nat) (gv lv : Value) (first : Int) (x : GS) : Comp :=
  ⟨fun w f => ∃ fv, RAt w b first x.S x.F x.ret gv lv fv ∧ f = rfoot b gv lv fv, fun ⟨fv, h, e⟩ hm hT => ⟨fv, h.mod hm (e ▸ hT), e⟩, fun ⟨_, h, e⟩ x hx => h.foot_lt x (e ▸ hx)⟩
theorem rfoot_grow {w : World} {b : Nat} {gv lv fv fv' : Value} (hf : ∀ y, fv'.ownBlock = some y → fv.ownBlock = some y ∨ w.heap.size ≤ y) : ∀ y ∈ rfoot b gv lv fv', y ∈ rfoot b gv lv fv ∨ w.heap.size ≤ y := fun y hy => by
  simp only [rfoot, List.mem_cons, List.mem_append, Option.mem_toList] at hy ⊢
  rcases hy with rfl | hy | hy | hy
  · simp
  · simp [hy]
  · simp [hy]
  · rcases hf y hy with h | h
    · exact .inl (.inr (.inr (.inr h)))
    · exact .inr h
theorem GenPost.takes {w : World} {b pb : Nat} {sl psv v : Value} {first : Int} {x : GS} {e : Ending} {w' : World} (h : GenPost v b first x.S x.F x.ret sl psv pb w e w') : Takes (genC b pb sl first x) v w (gfoot b pb sl psv) e w' :=
  let ⟨psv', he, hm, hg, hs⟩ := h; ⟨_, he, ⟨psv', hg, rfl⟩, hm, gfoot_grow hs⟩
theorem RPost.takes {w : World} {b : Nat} {gv lv fv v : Value} {first : Int} {x : GS} {e : Ending} {w' : World} (h : RPost v b first x.S x.F x.ret gv lv fv w e w') : Takes (rgenC b gv lv first x) v w (rfoot b gv lv fv) e w' :=
  let ⟨fv', he, hm, hg, hs⟩ := h; ⟨_, he, ⟨fv', hg, rfl⟩, hm, rfoot_grow hs⟩
section
variable {F : List Nat} {W w : World} {cs : List Comp} {n : Nat} {first : Int} {x : GS} (hI : GInv n first x) (i : Nat)
section
variable {b pb : Nat} {sl : Value} (h : Scene F W cs w) (hi : cs[i]? = some (genC b pb sl first x))
include hI h hi
theorem sc_issue (hf1 : 1 ≤ first) (hf2 : first ≤ 4294967295) (d : Int) (hd : 0 ≤ d) (hd2 : d ≤ 18446744073709551615) : Calls Try.prog 10 #[.pointer (some ⟨b, 0, none⟩), .int .u64 d] w fun e w' => e = .returned (issV first x d) ∧ Scene F W (cs.set i (genC b pb sl first (issG first x d))) w' :=
  h.call i hi fun f ⟨psv, hg, e⟩ => by subst e; exact (iss_post hg hI hf1 hf2 d hd hd2).mono fun _ _ hp => GenPost.takes hp
theorem sc_end (hn : n ≤ 4096) (k : Int) : Calls Try.prog 11 #[.pointer (some ⟨b, 0, none⟩), .int .i64 k] w fun e w' => e = .returned (.int .i64 (endV x k)) ∧ Scene F W (cs.set i (genC b pb sl first (endG x k))) w' :=
  h.call i hi fun f ⟨psv, hg, e⟩ => by subst e; exact (ends_post hg hI hn k).mono fun _ _ hp => GenPost.takes hp
end
section
variable {b : Nat} {gv lv : Value} (h : Scene F W cs w) (hi : cs[i]? = some (rgenC b gv lv first x))
include hI h hi
theorem sc_rissue (hn : n ≤ 4096) (hf1 : 1 ≤ first) (hf2 : first ≤ 4294967295) (d : Int) (hd : 0 ≤ d) (hd2 : d ≤ 18446744073709551615) : Calls Try.prog 23 #[.pointer (some ⟨b, 0, none⟩), .int .u64 d] w fun e w' => e = .returned (issV first x d) ∧ Scene F W (cs.set i (rgenC b gv lv first (issG first x d))) w' :=
  h.call i hi fun f ⟨fv, hg, e⟩ => by subst e; exact (riss_ok hg hI hn hf1 hf2 d hd hd2).mono fun _ _ hp => RPost.takes hp
theorem sc_rend (hn : n ≤ 4096) (k : Int) : Calls Try.prog 24 #[.pointer (some ⟨b, 0, none⟩), .int .i64 k] w fun e w' => e = .returned (.int .i64 (endV x k)) ∧ Scene F W (cs.set i (rgenC b gv lv first (endG x k))) w' :=
  h.call i hi fun f ⟨fv, hg, e⟩ => by subst e; exact (rend_ok hg hI hn k).mono fun _ _ hp => RPost.takes hp
end
end
theorem sc_gen {F : List Nat} {W w : World} {cs : List Comp} (i : Nat) {b pb : Nat} {sl : Value} {first : Int} {x : GS} (h : Scene F W cs w) (hi : cs[i]? = some (genC b pb sl first x)) : ∃ psv, GenAt w b first x.S x.F x.ret sl psv pb :=
  let ⟨_, ⟨psv, h1, _⟩, _⟩ := h.part i hi; ⟨psv, h1⟩
theorem sc_rgen {F : List Nat} {W w : World} {cs : List Comp} (i : Nat) {b : Nat} {gv lv : Value} {first : Int} {x : GS} (h : Scene F W cs w) (hi : cs[i]? = some (rgenC b gv lv first x)) : ∃ fv, RAt w b first x.S x.F x.ret gv lv fv :=
  let ⟨_, ⟨fv, h1, _⟩, _⟩ := h.part i hi; ⟨fv, h1⟩
def stepG (first : Int) (x : GS) (a d : Int) : GS := if a % 5 < 3 then issG first x d else endG x (d % 9 - 1)
theorem GInv.step {n : Nat} {first : Int} {x : GS} (h : GInv n first x) (hf1 : 1 ≤ first) (hf2 : first ≤ 4294967295) (a d : Int) : GInv n first (stepG first x a d) := by
  unfold stepG
  split
  · exact h.issue hf1 hf2 d
  · exact h.endd _
theorem issV_form (first : Int) (x : GS) (d : Int) : ∃ p q r : Int, issV first x d = .tuple #[.int .i64 p, .int .i64 q, .int .i64 r] := by
  unfold issV
  split <;> exact ⟨_, _, _, rfl⟩
theorem step_ok {F : List Nat} {W w : World} {n b pb c : Nat} {sl gv lv : Value} {first : Int} {x : GS} (h : Scene F W [genC b pb sl first x, rgenC c gv lv first x] w) (hI : GInv n first x) (hn : n ≤ 4096) (hf1 : 1 ≤ first) (hf2 : first ≤ 4294967295)
    (a d : Int) (a0 : 0 ≤ a) (a1 : a ≤ 65535) (d0 : 0 ≤ d) (d1 : d ≤ 65535) :
    Calls Try.prog 14 #[.pointer (some ⟨b, 0, none⟩), .pointer (some ⟨c, 0, none⟩), .agg #[.int .u16 a, .int .u16 d]] w fun e w' => e = .returned (.bool true) ∧ Scene F W [genC b pb sl first (stepG first x a d), rgenC c gv lv first (stepG first x a d)] w' := by
  have h1 := h.alloc (.cells #[.int .u16 a, .int .u16 d] 30 (0, 0))
  have hb1 := h1.block 0 rfl
  have hcb1 := cells_of hb1
  have h1H := Lib.hid h1
  clear h h1 hb1
  unfold stepG
  by_cases hc : a % 5 < 3
  · rw [if_pos hc]
    go_enter Try.func14, Try.ntmps14
    go_wp2_with fail
    have hI1 := Lib.hid (sc_issue hI 1 h1H.out rfl hf1 hf2 d d0 (by omega))
    have hI2 := Lib.hid fun w' (h' : Scene F W [blockC w.heap.size (.cells #[.int .u16 a, .int .u16 d] 30 (0, 0)), genC b pb sl first (issG first x d), rgenC c gv lv first x] w') => sc_rissue hI 2 h' rfl hn hf1 hf2 d d0 (by omega)
    obtain ⟨p, q, r, hV⟩ := issV_form first x d
    rw [hV] at hI1 hI2
    clear hV h1H
    refine hI1.out.mono ?_
    rintro e w2 ⟨rfl, h2⟩
    have hcb2 := cells_of (h2.block 0 rfl)
    have h2H := Lib.hid h2
    clear h2
    go_wp2_with fail
    refine (hI2.out _ h2H.out).mono ?_
    rintro e w3 ⟨rfl, h3⟩
    have h3H := Lib.hid h3
    clear h3 hI1 hI2 h2H
    go_wp2_with fail
    go_ret
    exact ⟨rfl, h3H.out.erase 0⟩
  · rw [if_neg hc]
    go_enter Try.func14, Try.ntmps14
    have hI1 := Lib.hid (sc_end hI 1 h1H.out rfl hn (d % 9 - 1))
    have hI2 := Lib.hid fun w' (h' : Scene F W [blockC w.heap.size (.cells #[.int .u16 a, .int .u16 d] 30 (0, 0)), genC b pb sl first (endG x (d % 9 - 1)), rgenC c gv lv first x] w') => sc_rend hI 2 h' rfl hn (d % 9 - 1)
    clear h1H
    go_wp2_with fail
    refine hI1.out.mono ?_
    rintro e w2 ⟨rfl, h2⟩
    have h2H := Lib.hid h2
    clear h2
    go_wp2_with fail
    refine (hI2.out _ h2H.out).mono ?_
    rintro e w3 ⟨rfl, h3⟩
    have h3H := Lib.hid h3
    clear h3 hI1 hI2 h2H
    go_wp2_with fail
    go_ret
    exact ⟨rfl, h3H.out.erase 0⟩
set_option maxHeartbeats 1000000 in
theorem alike_ok {w : World} {n b pb c : Nat} {sl psv gv lv fv : Value} {first : Int} {x : GS} (hg : GenAt w b first x.S x.F x.ret sl psv pb) (hr : RAt w c first x.S x.F x.ret gv lv fv) (hI : GInv n first x) (hn : n ≤ 4096) :
    Calls Try.prog 15 #[.pointer (some ⟨b, 0, none⟩), .pointer (some ⟨c, 0, none⟩)] w fun e w' => e = .returned (.bool true) ∧ Mod [] w w' := by
  have hcb := cells_of hr.blk
  have hln := fun ty w' => row_len (ty := ty) Try.underlying51 hr.gen w'
  have hlen := hI.len
  rw [hlen] at hln
  have hgH := Lib.hid hg
  have hrH := Lib.hid hr
  clear hg hr hI
  go_enter Try.func15, Try.ntmps15
  go_wp2_with fail
  go_loopw [5] (fun i wr => ∃ k : Nat, k ≤ n + 2 ∧ i = .int .i64 ((k : Int) - 1) ∧ Mod [] w wr) (fun i _ => n + 2 - (intOf i + 1).toNat)
  case atStart => exact ⟨0, by omega, rfl, Mod.refl _ _⟩
  case round =>
    obtain ⟨k, hk, rfl, hm⟩ := hrel
    have hcb2 := cells_of (hrH.out.mod hm (by simp)).blk
    by_cases hlt : k < n + 2
    · go_wp2_with fail
      refine (live_post (hgH.out.mod hm (by simp)) ((k : Int) - 1)).mono ?_
      rintro e w2 ⟨rfl, hm2⟩
      have hm2 := hm.nil_then hm2
      generalize hll : liveN x.S ((k : Int) - 1) = l
      generalize hgg : (if l = true then (slotN x.S ((k : Int) - 1).toNat).1 else 0) = g
      go_wp2_with fail
      have hro := rof_ok (hrH.out.mod hm2 (by simp)) ((k : Int) - 1)
      rw [hll, hgg] at hro
      refine hro.mono ?_
      rintro e w3 ⟨rfl, hm3⟩
      have hm3 := hm2.nil_then hm3
      clear hro hll hgg hm hm2
      have hgq : (g == g) = true := by simp
      have hlq : (l == l) = true := by simp
      go_wp2_with fail
      go_roundw
      case rel => exact ⟨k + 1, by omega, by go_num, hm3⟩
      case measure => simp [intOf]; omega
    · go_wp2_with fail
      have hg5 := Lib.hid (hgH.out.mod hm (by simp))
      have hr5 := Lib.hid (hrH.out.mod hm (by simp))
      have k1 := GW.cells (S := []) hr5.out.blk (by simp)
      clear hcb hcb2 hgH hrH
      have hnn : ((n : Int) == n) = true := by simp
      have hrr : (x.ret == x.ret) = true := by simp
      refine wp_region_pure (by kernel_rfl) (by kernel_rfl) ?_
      refine stage_quiet 1 (by kernel_rfl) ?_
      simp only [List.take_succ_cons, List.take_zero, List.drop_succ_cons, List.drop_zero]
      repeat (go_big_quiet_step (fail))
      refine wpQuiet_nil ?_
      refine stage_pure 17 _ (.int .i64 n) rfl Try.call17 rfl rfl (fun w' h => by have := size_ok (hg5.out.mod h (by simp)); rw [hlen] at this; exact this) ?_
      simp only [Act.put, List.setIfInBounds_toArray, List.set_cons_succ, List.set_cons_zero]
      refine stage_quiet 8 (by kernel_rfl) ?_
      simp only [List.take_succ_cons, List.take_zero, List.drop_succ_cons, List.drop_zero]
      repeat (go_big_quiet_step (fail))
      refine wpQuiet_nil ?_
      refine stage_pure 18 _ (.int .i64 x.ret) rfl Try.call18 rfl rfl (fun w' h => retired_ok (hg5.out.mod h (by simp))) ?_
      simp only [Act.put, List.setIfInBounds_toArray, List.set_cons_succ, List.set_cons_zero]
      refine stage_quiet 8 (by kernel_rfl) ?_
      simp only [List.take_succ_cons, List.take_zero, List.drop_succ_cons, List.drop_zero]
      repeat (go_big_quiet_step (fail))
      refine wpQuiet_nil ?_
      refine stage_call_any 19 _ (fun v => ∃ a l c, v = .slice a l c) (fun v w' => Mod [] wr w' ∧ IntsAt w' v x.F) rfl Try.call19 rfl rfl ⟨_, none, 0, 0, rfl⟩ (fun w' h => (pool_ok (hg5.out.mod h (by simp))).mono fun e w'' ⟨v, he, hm7, hi⟩ => ⟨v, he, ?_, h.nil_then hm7, hi⟩) (fun v w' h => InGW.of h.1) (fun v hv => ?_)
      · rcases hi with ⟨rfl, _⟩ | ⟨_, _, _, rfl, _⟩ <;> exact ⟨_, _, _, rfl⟩
      obtain ⟨pa, pl, pc, rfl⟩ := hv
      simp only [Act.put, List.setIfInBounds_toArray, List.set_cons_succ, List.set_cons_zero]
      refine stage_quiet 4 (by kernel_rfl) ?_
      simp only [List.take_succ_cons, List.take_zero, List.drop_succ_cons, List.drop_zero]
      repeat (go_big_quiet_step (fail))
      refine wpQuiet_nil ?_
      refine stage_go 26 _ (.bool true) (fun w' => Mod [] wr w') rfl Try.call26 rfl rfl (fun w' h => (same_ints h.2 (hr5.out.free.mod h.1 (by simp))).mono fun e w'' ⟨he, hm7⟩ => ⟨he, h.1.nil_then hm7⟩) (fun _ h => InGW.of h) ?_
      simp only [Act.put, List.setIfInBounds_toArray, List.set_cons_succ, List.set_cons_zero]
      refine stage_quiet 2 (by kernel_rfl) ?_
      simp only [List.take_succ_cons, List.take_zero, List.drop_succ_cons, List.drop_zero]
      repeat (go_big_quiet_step (fail))
      refine wpQuiet_nil ?_
      refine stage_nil fun w9 hm9 => ?_
      have hm9 := hm.nil_then hm9
      go_wp2_with fail
      go_ret
      exact ⟨rfl, hm9⟩
end Go.Proofs.Ytgoiifffpdednaa
