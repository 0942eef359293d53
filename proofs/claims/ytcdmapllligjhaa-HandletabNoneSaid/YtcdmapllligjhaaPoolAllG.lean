/- The pool's iterator: what it hands to a loop. -/
import Derived.RangeFuncNested
import Derived.RangeFuncBound
import Derived.RangeFuncCalls
import Derived.RangeFuncLeaves
import Derived.RangeFuncBox
import Derived.Shelf.Abstract
import Derived.Shelf.RegionOpen
import Derived.WalkKit
import Derived.OwnWalkIn
import Derived.TacticsInMore
import Derived.LoopNIn
import Derived.LoopIn
import Derived.Maps.AppendAt
import Derived.Test.YtcdmapllligjhaaPoolG
namespace Go.Proofs.Ytcdmapllligjhaa
open Go Go.RowKit Go.Stg
attribute [local go_sem] Oper.semAt_some

/-- What a loop's body leaves alone: the cells from n₀ on that it has no hand in. -/
def Keeps (n₀ : Nat) (Av : World → Nat → Prop) (W W' : World) : Prop :=
  W.heap.size ≤ W'.heap.size ∧ ∀ k cs T fr, n₀ ≤ k → Av W k → W.heap[k]? = some (.cells cs T fr) → W'.heap[k]? = some (.cells cs T fr) ∧ Av W' k
theorem Keeps.trans {n₀ : Nat} {Av : World → Nat → Prop} {A B C : World} (h : Keeps n₀ Av A B) (k : Keeps n₀ Av B C) : Keeps n₀ Av A C :=
  ⟨Nat.le_trans h.1 k.1, fun j cs T fr hj ha hc => by
    obtain ⟨h1, h2⟩ := h.2 j cs T fr hj ha hc
    exact k.2 j cs T fr hj h2 h1⟩
theorem row_same {w w' : World} {base sz n : Nat} {e : TypeId} {v : Value} {xs : List Value} (h : w.ownsRow base e sz v n xs) (hs : ∀ g cs fr, v.ownBlock = some g → w.heap[g]? = some (.cells cs e fr) → w'.heap[g]? = some (.cells cs e fr)) : w'.ownsRow base e sz v n xs := by
  rcases h.2 with ⟨h1, h2⟩ | ⟨g, cap, cur, rfl, h2, h3, h4, h5, h6, h7⟩
  · exact ⟨h.1, .inl ⟨h1, h2⟩⟩
  · exact ⟨h.1, .inr ⟨g, cap, cur, rfl, h2, hs g _ _ rfl h3, h4, h5, h6, h7⟩⟩
theorem CloneI_pool (b : Nat) (sv : Value) (cs : List Value) (w : World) (h : PoolAt 124 3 w b sv cs) (h1 : ∀ u ∈ cs, u.oneCell' = true) : Calls Try.prog 61 #[sv] w (MadePost 3 cs w) := by
  obtain ⟨hb, hrow, hne, hlen⟩ := h
  rcases hrow.2 with ⟨rfl, h2⟩ | ⟨g, cap, cur, rfl, h2, h3, h4, h5, h6, h7⟩
  · have : cs = [] := List.eq_nil_of_length_eq_zero h2
    subst this
    exact CloneI_nil w
  · refine CloneI_some g 0 cap cs w (lt_of h3) (fun j u hj => ?_) h1 hlen
    have hjl := (List.getElem?_eq_some_iff.1 hj).1
    have hc := hrow.cellAt j (by omega)
    rw [Nat.zero_add, hc, hj]

theorem AllI_made (p : Option Addr) (w : World) : Calls Try.prog 60 #[.pointer p] w fun e w' => e = .returned (.func (.func 65) #[] #[.pointer (some ⟨w.heap.size, 0, none⟩)]) ∧ w' = w.alloc (.cells #[.pointer p] 102) := by
  go_enter Try.func60, Try.ntmps60
  go_wp2
  go_ret
  exact ⟨rfl, rfl⟩

set_option maxRecDepth 100000 in
set_option maxHeartbeats 2000000 in
theorem AllC_nil (n l Bs : Nat) (J : List Int → World → Prop) (W : World) (hBs : W.cell? ⟨Bs, 0, none⟩ = some (.pointer none)) (h0 : J [] W) :
    CallsIn Fence.wide n Try.prog 65 #[.func (.yield l) #[] #[], .pointer (some ⟨Bs, 0, none⟩)] W fun e W' => (∃ v, e = .returned v) ∧ J [] W' := by
  refine callsIn_of_wp Try.func65 rfl trivial ?_ rfl
  simp only [Try.ntmps65, List.size_toArray, List.length_cons, List.length_nil, Nat.reduceAdd, Nat.reduceSub, Array.replicate_succ, Array.replicate_zero, List.push_toArray, List.append_toArray, List.nil_append, List.cons_append]
  gi_wp2
  refine bodyPost_ret (results_none rfl _ _ _) rfl ?_
  exact ⟨⟨_, rfl⟩, h0⟩

set_option maxRecDepth 100000 in
set_option maxHeartbeats 2000000 in
theorem AllC_in (n : Nat) (hn : 1 ≤ n) (l Bs n₀ b : Nat) (Av : World → Nat → Prop) (sv : Value) (xs : List Int) (J Jx : List Int → World → Prop)
    (hY : ∀ pre x W, J pre W → pre.length < xs.length → YieldAt Fence.wide (n - 1) Try.prog l #[.int .i64 x] W fun e W' =>
      (e = .returned (.bool true) ∧ J (pre ++ [x]) W' ∧ Keeps n₀ Av W W') ∨ (e = .returned (.bool false) ∧ Jx (pre ++ [x]) W'))
    (W : World) (hn₀ : n₀ ≤ W.heap.size) (hBs : W.cell? ⟨Bs, 0, none⟩ = some (.pointer (some ⟨b, 0, none⟩))) (hp : PoolAt 124 3 W b sv (xs.map (.int .i64)))
    (hAv : ∀ W2 k, RowKit.Below W.heap.size W W2 → W.heap.size ≤ k → Av W2 k) (hJ : AbidesFrom W.heap.size J) (h0 : J [] W) :
    CallsIn Fence.wide n Try.prog 65 #[.func (.yield l) #[] #[], .pointer (some ⟨Bs, 0, none⟩)] W fun e W' => (∃ v, e = .returned v) ∧
      ((∃ ys, ys = xs ∧ J ys W') ∨ (∃ pre, pre <+: xs ∧ Jx pre W')) := by
  have hcl := Lib.hid (CloneI_pool b sv _ W hp (by simp [Value.oneCell']))
  have hlen := hp.len
  simp only [List.length_map] at hlen
  have hcb := cells_of hp.blk
  clear hp
  refine callsIn_of_wp Try.func65 rfl trivial ?_ rfl
  simp only [Try.ntmps65, List.size_toArray, List.length_cons, List.length_nil, Nat.reduceAdd, Nat.reduceSub, Array.replicate_succ, Array.replicate_zero, List.push_toArray, List.append_toArray, List.nil_append, List.cons_append]
  gi_wp2_with fail
  refine ⟨trivial, (callsIn_wide.2 hcl.out).mono ?_⟩
  clear hcl
  rintro e w1 ⟨sv', rfl, hm, hrow, hfr⟩
  simp only [List.length_map] at hrow
  have hb1 := hm.below
  have hJ1 : J [] w1 := hJ _ _ _ none h0 ⟨hb1.os, hb1.tape, hb1.output, hb1.size, fun k hk _ => hb1.block k hk⟩ (by simp)
  have hln := fun ty w => row_len (ty := ty) Try.underlying67 hrow w
  have hown : ∀ g, sv'.ownBlock = some g → n₀ ≤ g ∧ Av w1 g := fun g hg => ⟨Nat.le_trans hn₀ (hfr g hg), hAv w1 g hb1 (hfr g hg)⟩
  clear hfr hb1 hm h0 hcb hBs hAv hJ
  gi_wp2_with fail
  gi_loopw [13] (fun i wr => ∃ k : Nat, k ≤ xs.length ∧ i = .int .i64 k ∧ J (xs.take k) wr ∧ wr.ownsRow 0 3 1 sv' xs.length (xs.map (.int .i64)) ∧ ∀ g, sv'.ownBlock = some g → n₀ ≤ g ∧ Av wr g)
    (fun i _ => xs.length - (intOf i).toNat)
  case atStart => exact ⟨0, Nat.zero_le _, rfl, hJ1, hrow, hown⟩
  case round =>
    obtain ⟨k, hk, rfl, hJs, hrw, hav⟩ := hrel
    clear hrow hown hJ1
    by_cases hlt : k < xs.length
    · obtain ⟨g, cap, rfl, _, hg⟩ := row_pos hrw (by omega)
      have hc := hrw.cellAt k (by simpa using hlt)
      simp only [List.getElem?_map, List.getElem?_eq_getElem hlt, Option.map_some] at hc
      have htk : xs.take k ++ [xs[k]] = xs.take (k + 1) := by rw [List.take_add_one, List.getElem?_eq_getElem hlt]; rfl
      obtain ⟨fn, tmps, assign, body, hy, hR⟩ := hY _ xs[k] wr hJs (by rw [List.length_take]; omega)
      rw [htk] at hR
      generalize xs[k] = x at *
      clear hY
      gi_wp2_with fail
      refine hR.mono ?_
      rintro e W3 (⟨rfl, hJ3, hk3⟩ | ⟨rfl, hJx3⟩)
      · gi_wp2_with fail
        go_roundw
        case rel => exact ⟨k + 1, by omega, by simp, hJ3, row_same hrw (fun g cs fr hg hb => (hk3.2 g cs _ fr (hav g hg).1 (hav g hg).2 hb).1), fun g' hg' => ⟨(hav g' hg').1, by
            rcases hrw.2 with ⟨h, _⟩ | ⟨g2, cap2, cur, h, h2, h3, _⟩
            · simp at h
            · simp at h
              obtain ⟨rfl, rfl⟩ := h
              have hk' : some g = some g' := hg'
              obtain rfl := Option.some.inj hk'
              exact (hk3.2 g _ _ _ (hav g rfl).1 (hav g rfl).2 h3).2⟩⟩
        case measure => simp [intOf]; omega
      · gi_wp2_with fail
        refine bodyPost_ret (results_none rfl _ _ _) rfl ?_
        exact ⟨⟨_, rfl⟩, .inr ⟨_, List.take_prefix (k + 1) xs, hJx3⟩⟩
    · obtain rfl : k = xs.length := by omega
      gi_wp2_with fail
      go_end0
      exact ⟨⟨_, rfl⟩, .inl ⟨_, rfl, by simpa using hJs⟩⟩

/-- A loop over what a pool's All returned. -/
theorem AllI_stops (n : Nat) (hn : 1 ≤ n) (Bs n₀ b : Nat) (Av : World → Nat → Prop) (sv : Value) (xs : List Int) (w : World) (hBs : w.heap[Bs]? = some (.cells #[.pointer (some ⟨b, 0, none⟩)] 102 (0, 0))) (hn₀ : n₀ ≤ w.heap.size) (hp : PoolAt 124 3 w b sv (xs.map (.int .i64)))
    (hAv : ∀ W W2 k, RowKit.Below w.heap.size w W → RowKit.Below W.heap.size W W2 → W.heap.size ≤ k → Av W2 k) :
    SeqStopsK Fence.wide n Try.prog 65 #[.pointer (some ⟨Bs, 0, none⟩)] (fun x : Int => #[Value.int .i64 x]) (Keeps n₀ Av) (fun ys => ys = xs) (fun pre => pre <+: xs) xs.length w := fun l J Jx W hW hJ _ hY h0 =>
  AllC_in n hn l Bs n₀ b Av sv xs J Jx hY W (Nat.le_trans hn₀ hW.size) ((World.cell?_of_block (a := ⟨Bs, 0, none⟩) (hW.block Bs (lt_of hBs))).trans (by rw [cells_of hBs]; rfl)) (hp.mod (Mod.of_below hW) (by simp)) (fun W2 k h1 h2 => hAv W W2 k hW h1 h2) hJ h0
theorem AllI_stops_nil (n Bs : Nat) (Kp : World → World → Prop) (w : World) (hBs : w.heap[Bs]? = some (.cells #[.pointer none] 102 (0, 0))) :
    SeqStopsK Fence.wide n Try.prog 65 #[.pointer (some ⟨Bs, 0, none⟩)] (fun x : Int => #[Value.int .i64 x]) Kp (fun ys => ys = []) (fun _ => False) 0 w := fun l J Jx W hW hJ _ hY h0 =>
  (AllC_nil n l Bs J W ((World.cell?_of_block (a := ⟨Bs, 0, none⟩) (hW.block Bs (lt_of hBs))).trans (by rw [cells_of hBs]; rfl)) h0).mono fun e W' ⟨he, hj⟩ => ⟨he, .inl ⟨_, rfl, hj⟩⟩
theorem keeps_t {n₀ : Nat} {Av : World → Nat → Prop} : ∀ {A B C : World}, Keeps n₀ Av A B → Keeps n₀ Av B C → Keeps n₀ Av A C := fun h k => h.trans k
theorem keeps_b {n₀ B : Nat} {Av : World → Nat → Prop} (hAv : ∀ (W : World) (l : Nat) (o' : Obj) k, B ≤ l → Av W k → Av (W.putObj l o') k) : ∀ (W : World) (l : Nat) (o o' : Obj), B ≤ l → W.heap[l]? = some o → o.isCells = false → o.isWalk = false → Keeps n₀ Av W (W.putObj l o') := by
  intro W l o o' hl ho hc _
  have hg := grownBy_putObj' W l o'
  refine ⟨hg.size, fun k cs T fr _ ha hk => ⟨(hg.block k (lt_of hk) (fun e => ?_)).trans hk, hAv W l o' k hl ha⟩⟩
  have e' : k = l := Option.some.inj e
  subst e'
  rw [hk] at ho
  cases ho
  simp [Obj.isCells] at hc
end Go.Proofs.Ytcdmapllligjhaa
