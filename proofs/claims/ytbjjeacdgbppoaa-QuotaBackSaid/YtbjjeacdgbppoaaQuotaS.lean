/- The definition's meter: the functions that change it. -/
import Derived.Test.YtbjjeacdgbppoaaQuotaR
namespace Go.Proofs.Ytbjjeacdgbppoaa
open Go Go.RowKit Go.Stg

theorem info_share : (Try.prog.info? 52).map (fun i => (i.zero, i.size, i.bytes)) = some (some (.agg #[.int .i64 0, .int .i64 0, .int .i64 0, .int .i64 0]), 4, 32) := by kernel_rfl

theorem cells4 (w : World) (a b c d : Value) (T : TypeId) : ∀ j u, [a, b, c, d][j]? = some u → (w.alloc (.cells #[a, b, c, d] T)).cell? ((⟨w.heap.size, 0, none⟩ : Addr).add j) = some u := by
  intro j u h
  have hadd : (⟨w.heap.size, 0, none⟩ : Addr).add j = ⟨w.heap.size, j, none⟩ := by unfold Addr.add; split <;> simp_all
  rw [hadd, cells_of (at_alloc w _)]
  simpa using h

theorem one4 (a b c d : Int) : ∀ u ∈ [Value.int .i64 a, .int .i64 b, .int .i64 c, .int .i64 d], u.oneCell' = true := by
  intro u hu
  simp at hu
  rcases hu with rfl | rfl | rfl | rfl <;> rfl
theorem small63 {n : Nat} (h : n ≤ 1000000) : n + 1 ≤ maxLen := by unfold maxLen; omega
theorem small32 {n : Nat} (h : n ≤ 1000000) : (n + 1) * 32 ≤ 140737488355328 := by omega

theorem filter_take {L : List (Int × Q)} {k : Nat} (p : Int) (h : k < L.length) :
    (L.take (k + 1)).filter (fun s => s.1 != p) = (L.take k).filter (fun s => s.1 != p) ++ if L[k].1 = p then [] else [L[k]] := by
  rw [List.take_succ_eq_append_getElem h, List.filter_append]
  congr 1
  by_cases he : L[k].1 = p <;> simp [he]

/-- Behind a call that changed the definition's meter. -/
def RChanged (v : Value) (b : Nat) (l : Q) (L : List (Int × Q)) (w : World) (e : Ending) (w' : World) : Prop :=
  ∃ sv, e = .returned v ∧ Mod [b] w w' ∧ RAt w' b sv l L ∧ ∀ x, sv.ownBlock = some x → w.heap.size ≤ x

set_option maxHeartbeats 1000000 in
theorem Rset_any (p : Int) (q l : Q) (b : Nat) (sv : Value) (L : List (Int × Q)) (w : World) (hR : RAt w b sv l L) (hlen' : L.length < 1000000) :
    Calls Try.prog 25 #[.pointer (some ⟨b, 0, none⟩), .int .i64 p, .agg #[.int .i64 q.b, .int .i64 q.o, .int .i64 q.r]] w (RChanged (.tuple #[]) b l (rset p q L) w) := by
  obtain ⟨i0, hi, hz0, hz1, hz2⟩ := info_parts info_share
  have hR1 := hR.mod ((Mod.refl [] w).alloc (.cells #[.int .i64 q.b, .int .i64 q.o, .int .i64 q.r] 24 (0, 0))) (by simp)
  obtain ⟨hl, hb, hrow, hne, hlen⟩ := hR1
  have hlb := lt_of hR.blk
  have hq := at_alloc w (.cells #[.int .i64 q.b, .int .i64 q.o, .int .i64 q.r] 24 (0, 0))
  have hrb := hR.row
  clear hR
  have hm0 := (Mod.refl [] w).alloc (.cells #[.int .i64 q.b, .int .i64 q.o, .int .i64 q.r] 24 (0, 0))
  go_enter Try.func25, Try.ntmps25
  go_wp2
  generalize hW0 : w.alloc (.cells #[.int .i64 q.b, .int .i64 q.o, .int .i64 q.r] 24 (0, 0)) = W0 at *
  have hsz : w.heap.size < W0.heap.size := by rw [← hW0]; simp
  clear hW0
  go_loopw [6, 7] (fun v i wr => ∃ k : Nat, k ≤ L.length ∧ i = .int .i64 k ∧ wr.ownsRow W0.heap.size 52 4 v ((L.take k).filter (fun s => s.1 != p)).length (scells ((L.take k).filter (fun s => s.1 != p))) ∧ Mod [] W0 wr) (fun _ i _ => L.length - (intOf i).toNat)
  case atStart => exact ⟨0, Nat.zero_le _, rfl, World.ownsRow_nil _ _ _ _, Mod.refl _ _⟩
  case round =>
    obtain ⟨k, hk, rfl, hown, hm⟩ := hrel
    have hcb := cells_of (hm.at hb (by simp))
    have hfl : ((L.take k).filter (fun s => s.1 != p)).length ≤ k := Nat.le_trans (List.length_filter_le _ _) (List.length_take_le _ _)
    by_cases hlt : k < L.length
    · rcases row_cases (row_mod hrow hm (by simp)) with ⟨_, hn, _⟩ | ⟨g, cap, hsv, _, hg, hcap, hmax, hcell⟩
      · omega
      · have hft := filter_take p hlt
        obtain ⟨c0, c1, c2, c3⟩ := scells_at L k hlt
        rw [← hcell _ (by omega)] at c0 c1 c2 c3
        rw [hsv] at hcb
        clear hcell hsv
        by_cases he : L[k].1 = p
        · have he' : (L[k].1 != p) = false := by simpa using he
          rw [if_pos he, List.append_nil] at hft
          have HF := Lib.hid hft
          have HE := Lib.hid he
          clear hft he
          go_wp2
          go_roundw
          case rel => exact ⟨k + 1, by omega, by go_num, by rw [HF.out]; exact hown, hm⟩
          case measure => simp [intOf]; omega
        · have he' : (L[k].1 != p) = true := by simpa using he
          rw [if_neg he] at hft
          have HF := Lib.hid hft
          clear hft he
          have hbs : ∀ o, W0.heap.size ≤ (wr.alloc o).heap.size := fun o => Nat.le_trans hm.size (by simp)
          have hn6 : ((L.take k).filter (fun s => s.1 != p)).length ≤ 1000000 := by omega
          go_wp2_with (first | (at_builtin; refine wpList_append_own _ rfl _ _ 35 rfl W0.heap.size 52 i0 (.agg #[.int .i64 0, .int .i64 0, .int .i64 0, .int .i64 0]) 4 32 Try.underlying35 hi hz0 hz1 hz2 rfl (by decide) _ _ _ rfl (hown.alloc _) ⟨wr.heap.size, 0, none⟩ 1 1 [.int .i64 L[k].1, .int .i64 L[k].2.b, .int .i64 L[k].2.o, .int .i64 L[k].2.r] rfl rfl (cells4 _ _ _ _ _ _) (one4 _ _ _ _) (small63 hn6) (small32 hn6) (hbs _) ?_; intro v' w1 hown1 hgrow _))
          have hm1 := (hm.alloc (.cells #[.int .i64 L[k].1, .int .i64 L[k].2.b, .int .i64 L[k].2.o, .int .i64 L[k].2.r] 52 (0, 0))).grown hgrow (fun x hx => .inr (hown.lt x hx).1)
          go_roundw
          case rel => exact ⟨k + 1, by omega, by go_num, by rw [HF.out, scells_append]; simpa [scells] using hown1, hm1⟩
          case measure => simp [intOf]; omega
    · have hk' : k = L.length := by omega
      subst hk'
      rw [List.take_length] at hown hfl
      have hbs : ∀ o, W0.heap.size ≤ (wr.alloc o).heap.size := fun o => Nat.le_trans hm.size (by simp)
      have hn6 : (L.filter (fun s => s.1 != p)).length ≤ 1000000 := by omega
      have hcq := cells_of (hm.at hq (by simp))
      have hln := fun ty w => row_len (ty := ty) Try.underlying35 hrow w
      go_wp2_with (first | (at_builtin; refine wpList_append_own _ rfl _ _ 35 rfl W0.heap.size 52 i0 (.agg #[.int .i64 0, .int .i64 0, .int .i64 0, .int .i64 0]) 4 32 Try.underlying35 hi hz0 hz1 hz2 rfl (by decide) _ _ _ rfl (hown.alloc _) ⟨wr.heap.size, 0, none⟩ 1 1 [.int .i64 p, .int .i64 q.b, .int .i64 q.o, .int .i64 q.r] rfl rfl (cells4 _ _ _ _ _ _) (one4 _ _ _ _) (small63 hn6) (small32 hn6) (hbs _) ?_; intro v' w1 hown1 hgrow _; have hm1 := (hm.alloc (.cells #[.int .i64 p, .int .i64 q.b, .int .i64 q.o, .int .i64 q.r] 52 (0, 0))).grown hgrow (fun x hx => .inr (hown.lt x hx).1); have hcb1 := cells_of (hm1.at hb (by simp)); have hfb1 := frozen_of (hm1.at hb (by simp)); obtain ⟨g', cap', rfl, hg', _⟩ := row_pos hown1 (by omega)))
      go_end0
      have hlt1 := hown1.lt
      have hb1 := hm1.at hb (by simp)
      have hlb1 := lt_of hb
      generalize hv' : Value.slice (some ⟨g', 0, none⟩) ((L.filter (fun s => s.1 != p)).length + 1) cap' = v' at *
      refine ⟨v', rfl, ((hm0.mono (by simp)).then hm1 (by simp)).setCell (.inl (by simp)) _, ⟨hl, ?_, ?_, ?_, ?_⟩, ?_⟩
      · have := at_setCell (o := 3) (v := v') hb1
        simpa using this
      · have h1 := row_mod (row_base hown1 (Nat.zero_le _)) ((Mod.refl [b] w1).setCell (p := ⟨b, 3, none⟩) (.inl (by simp)) v') (fun g hg => by have := hlt1 g hg; simp; omega)
        unfold rset
        rw [scells_append]
        simpa [scells] using h1
      · intro he
        have := hlt1 _ he
        omega
      · unfold rset; simp; omega
      · intro x hx
        have := hlt1 x hx
        omega
end Go.Proofs.Ytbjjeacdgbppoaa
