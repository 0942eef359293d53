/- The definition's meter: Add and Sub. -/
import Derived.Test.YtbjjeacdgbppoaaQuotaT
namespace Go.Proofs.Ytbjjeacdgbppoaa
open Go Go.RowKit Go.Stg

theorem RAdd_no (p : Int) (q l : Q) (b : Nat) (sv : Value) (L : List (Int × Q)) (w : World) (hR : RAt w b sv l L) (hpos : (rget p L).pos) (hqi : q.i64) (h : fitsE l (rget p L) q ≠ 0) :
    Calls Try.prog 17 #[.pointer (some ⟨b, 0, none⟩), .int .i64 p, .agg #[.int .i64 q.b, .int .i64 q.o, .int .i64 q.r]] w fun e w' => e = .returned (.int .i64 (fitsE l (rget p L) q)) ∧ Mod [] w w' := by
  have hR1 := hR.mod ((Mod.refl [] w).alloc (.cells #[.int .i64 q.b, .int .i64 q.o, .int .i64 q.r] 24 (0, 0))) (by simp)
  have hF := RFits_any p q l b sv L _ hR1 hpos hqi
  obtain ⟨n, hn⟩ : ∃ n, fitsE l (rget p L) q = n := ⟨_, rfl⟩
  rw [hn] at hF h ⊢
  have hne : (n == 0) = false := by simpa using h
  have hne' : (n != 0) = true := by simpa using h
  have HF := Lib.hid hF
  clear hF hR1 hR hn
  go_enter Try.func17, Try.ntmps17
  go_wp2_with (go_at_call 16; refine HF.out.mono ?_; rintro e w1 ⟨rfl, hm1⟩)
  all_goals go_ret
  all_goals exact ⟨rfl, (((Mod.refl _ _).alloc _).nil_then hm1)⟩

theorem RAdd_yes (p : Int) (q l : Q) (b : Nat) (sv : Value) (L : List (Int × Q)) (w : World) (hR : RAt w b sv l L) (hpos : (rget p L).pos) (hqi : q.i64) (hlen : L.length < 1000000) (h : fitsE l (rget p L) q = 0) :
    Calls Try.prog 17 #[.pointer (some ⟨b, 0, none⟩), .int .i64 p, .agg #[.int .i64 q.b, .int .i64 q.o, .int .i64 q.r]] w (RChanged (.int .i64 0) b l (rset p ((rget p L).add q) L) w) := by
  have hR1 := hR.mod ((Mod.refl [] w).alloc (.cells #[.int .i64 q.b, .int .i64 q.o, .int .i64 q.r] 24 (0, 0))) (by simp)
  have hF := RFits_any p q l b sv L _ hR1 hpos hqi
  rw [h] at hF
  obtain ⟨⟨⟨a1, a2⟩, ⟨a3, a4⟩, a5, a6⟩, ⟨q1, q2⟩, ⟨q3, q4⟩, q5, q6⟩ := fitsE_zero h hpos hR.lim
  simp only [Q.add] at a1 a2 a3 a4 a5 a6
  have HF := Lib.hid hF
  have hlb := lt_of hR.blk
  clear hF h hpos hqi hR
  go_enter Try.func17, Try.ntmps17
  go_wp2_with fail
  refine HF.out.mono ?_
  rintro e w1 ⟨rfl, hm1⟩
  have hR2 := hR1.mod hm1 (by simp)
  have hq1 := hm1.at (at_alloc w _) (by simp)
  have HG := Lib.hid (RGet_any p l b sv L _ hR2)
  have hmw := ((Mod.refl [b] w).alloc (.cells #[.int .i64 q.b, .int .i64 q.o, .int .i64 q.r] 24 (0, 0))).nil_then hm1
  have hg1 := hm1.gt
  clear hR1 hm1
  go_wp2_with fail
  refine HG.out.mono ?_
  rintro e w2 ⟨rfl, hm2⟩
  have hR3 := hR2.mod (hm2.alloc (.cells #[.int .i64 (rget p L).b, .int .i64 (rget p L).o, .int .i64 (rget p L).r] 24 (0, 0))) (by simp)
  have hq2 := hm2.at hq1 (by simp)
  have hcq := cells_of hq2
  have hlq := lt_of hq2
  have HS := Lib.hid (Rset_any p ((rget p L).add q) l b sv L _ hR3 hlen)
  have hm3 := (hmw.nil_then hm2).alloc (.cells #[.int .i64 (rget p L).b, .int .i64 (rget p L).o, .int .i64 (rget p L).r] 24 (0, 0))
  clear hR2 hq1 hm2 HG HF hmw hq2
  go_wp2_with fail
  refine HS.out.mono ?_
  rintro e w4 ⟨sv', rfl, h1, h2, h3⟩
  clear hcq hR3 HS
  go_wp2
  go_ret
  refine ⟨sv', rfl, hm3.trans h1, h2, fun x hx => ?_⟩
  have := h3 x hx
  have := hm3.size
  omega

theorem RSub_no (p : Int) (q l : Q) (b : Nat) (sv : Value) (L : List (Int × Q)) (w : World) (hR : RAt w b sv l L) (h : subE (rget p L) q = 1) :
    Calls Try.prog 18 #[.pointer (some ⟨b, 0, none⟩), .int .i64 p, .agg #[.int .i64 q.b, .int .i64 q.o, .int .i64 q.r]] w fun e w' => e = .returned (.int .i64 1) ∧ Mod [] w w' := by
  have hR1 := hR.mod ((Mod.refl [] w).alloc (.cells #[.int .i64 q.b, .int .i64 q.o, .int .i64 q.r] 24 (0, 0))) (by simp)
  have HG := Lib.hid (RGet_any p l b sv L _ hR1)
  have ho : q.b < 0 ∨ q.o < 0 ∨ q.r < 0 ∨ (rget p L).b < q.b ∨ (rget p L).o < q.o ∨ (rget p L).r < q.r := by
    unfold subE at h
    split at h
    · rename_i h'
      simp only [negB, overB, Bool.or_eq_true, decide_eq_true_eq] at h'
      omega
    · cases h
  clear h hR hR1
  go_enter Try.func18, Try.ntmps18
  go_wp2_with fail
  refine HG.out.mono ?_
  rintro e w1 ⟨rfl, hm1⟩
  have hcq := cells_of (hm1.at (at_alloc w _) (by simp))
  have hlt := hm1.gt
  have hm2 := (((Mod.refl [] w).alloc (.cells #[.int .i64 q.b, .int .i64 q.o, .int .i64 q.r] 24 (0, 0))).nil_then hm1).alloc (.cells #[.int .i64 (rget p L).b, .int .i64 (rget p L).o, .int .i64 (rget p L).r] 24 (0, 0))
  clear hm1 HG
  go_wp2_with fail
  all_goals go_ret
  all_goals exact ⟨rfl, hm2⟩

theorem RSub_yes (p : Int) (q l : Q) (b : Nat) (sv : Value) (L : List (Int × Q)) (w : World) (hR : RAt w b sv l L) (hpos : (rget p L).pos) (hlen : L.length < 1000000) (h : subE (rget p L) q = 0) :
    Calls Try.prog 18 #[.pointer (some ⟨b, 0, none⟩), .int .i64 p, .agg #[.int .i64 q.b, .int .i64 q.o, .int .i64 q.r]] w (RChanged (.int .i64 0) b l (rset p ((rget p L).sub q) L) w) := by
  have hR1 := hR.mod ((Mod.refl [] w).alloc (.cells #[.int .i64 q.b, .int .i64 q.o, .int .i64 q.r] 24 (0, 0))) (by simp)
  have HG := Lib.hid (RGet_any p l b sv L _ hR1)
  obtain ⟨hn, ho, ⟨⟨a1, a2⟩, ⟨a3, a4⟩, a5, a6⟩, ⟨q1, q2⟩, ⟨q3, q4⟩, q5, q6⟩ := subE_zero h hpos
  simp only [overB, Bool.or_eq_false_iff, decide_eq_false_iff_not, Int.not_lt] at ho
  obtain ⟨⟨o1, o2⟩, o3⟩ := ho
  obtain ⟨⟨x1, x2⟩, ⟨x3, x4⟩, x5, x6⟩ := hpos
  simp only [Q.sub] at a1 a2 a3 a4 a5 a6
  have hlb := lt_of hR.blk
  clear h hR hn
  go_enter Try.func18, Try.ntmps18
  go_wp2_with fail
  refine HG.out.mono ?_
  rintro e w1 ⟨rfl, hm1⟩
  have hq1 := hm1.at (at_alloc w _) (by simp)
  have hcq := cells_of hq1
  have hlt := hm1.gt
  have hR3 := hR1.mod (hm1.alloc (.cells #[.int .i64 (rget p L).b, .int .i64 (rget p L).o, .int .i64 (rget p L).r] 24 (0, 0))) (by simp)
  have HS := Lib.hid (Rset_any p ((rget p L).sub q) l b sv L _ hR3 hlen)
  have hm3 := (((Mod.refl [b] w).alloc (.cells #[.int .i64 q.b, .int .i64 q.o, .int .i64 q.r] 24 (0, 0))).nil_then hm1).alloc (.cells #[.int .i64 (rget p L).b, .int .i64 (rget p L).o, .int .i64 (rget p L).r] 24 (0, 0))
  clear hR1 hR3 hq1 hm1 HG
  go_wp2_with fail
  refine HS.out.mono ?_
  rintro e w4 ⟨sv', rfl, h1, h2, h3⟩
  clear hcq HS
  go_wp2
  go_ret
  refine ⟨sv', rfl, hm3.trans h1, h2, fun x hx => ?_⟩
  have := h3 x hx
  have := hm3.size
  omega
end Go.Proofs.Ytbjjeacdgbppoaa
