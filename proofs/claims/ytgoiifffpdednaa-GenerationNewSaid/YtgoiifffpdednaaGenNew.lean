/- GenerationNew: the walk of the law. -/
import Derived.Test.YtgoiifffpdednaaGenNone
namespace Go.Proofs.Ytgoiifffpdednaa
open Go Go.RowKit Go.Stg

/-- What the two constructors return for these numbers. -/
def NewV (n f : Int) (p : Option Addr) (E : Int) : Prop := (p = none ∧ E = 1 ∧ (n < 0 ∨ 4096 < n ∨ f < 1 ∨ 4294967295 < f)) ∨ ((∃ a, p = some a) ∧ E = 0 ∧ ¬ (n < 0 ∨ 4096 < n ∨ f < 1 ∨ 4294967295 < f))
theorem new_any (n f : Int) (w : World) : Calls Try.prog 8 #[.int .i64 n, .int .i64 f] w fun e w' => ∃ p E, e = .returned (.tuple #[.pointer p, .int .i64 E]) ∧ NewV n f p E ∧ Mod [] w w' := by
  by_cases h : n < 0 ∨ 4096 < n ∨ f < 1 ∨ 4294967295 < f
  · exact (new_bad n f h w).mono fun e w' ⟨he, hm⟩ => ⟨_, _, he, .inl ⟨rfl, rfl, h⟩, hm⟩
  · obtain ⟨m, rfl⟩ := Int.eq_ofNat_of_zero_le (show 0 ≤ n by omega)
    exact (new_ok m f (by omega) (by omega) (by omega) w).mono fun e w' ⟨b, _, _, _, he, hm, _⟩ => ⟨_, _, he, .inr ⟨⟨_, rfl⟩, rfl, h⟩, hm⟩
theorem rnew_any (n f : Int) (w : World) : Calls Try.prog 13 #[.int .i64 n, .int .i64 f] w fun e w' => ∃ p E, e = .returned (.tuple #[.pointer p, .int .i64 E]) ∧ NewV n f p E ∧ Mod [] w w' := by
  by_cases h : n < 0 ∨ 4096 < n ∨ f < 1 ∨ 4294967295 < f
  · exact (rnew_bad n f h w).mono fun e w' ⟨he, hm⟩ => ⟨_, _, he, .inl ⟨rfl, rfl, h⟩, hm⟩
  · obtain ⟨m, rfl⟩ := Int.eq_ofNat_of_zero_le (show 0 ≤ n by omega)
    exact (rnew_ok m f (by omega) (by omega) (by omega) w).mono fun e w' ⟨b, _, _, _, he, hm, _⟩ => ⟨_, _, he, .inr ⟨⟨_, rfl⟩, rfl, h⟩, hm⟩
theorem NewV.same {n f : Int} {p q : Option Addr} {E E' : Int} (h : NewV n f p E) (h' : NewV n f q E') : E' = E := by
  rcases h with ⟨_, rfl, h⟩ | ⟨_, rfl, h⟩ <;> rcases h' with ⟨_, rfl, h'⟩ | ⟨_, rfl, h'⟩
  · rfl
  · exact absurd h h'
  · exact absurd h' h
  · rfl
theorem NewV.form {n f : Int} {p : Option Addr} {E : Int} (h : NewV n f p E) : (p = none ∧ E = 1) ∨ ∃ a, p = some a ∧ E = 0 := by
  rcases h with ⟨h1, h2, _⟩ | ⟨⟨a, h1⟩, h2, _⟩
  · exact .inl ⟨h1, h2⟩
  · exact .inr ⟨a, h1, h2⟩
set_option maxHeartbeats 4000000 in
set_option maxRecDepth 10000 in
theorem gnew_walk (n f near k : Int) (n0 : 0 ≤ near) (n1 : near ≤ 255) (w : World) :
    Calls Try.prog 5 #[.int .i64 n, .int .i64 f, .int .u8 near, .int .i64 k] w fun e w' => e = .returned (.bool true) ∧ Mod [] w w' := by
  go_enter Try.func5, Try.ntmps5
  go_wp2_with fail
  refine (new_any n f _).mono ?_
  rintro e w1 ⟨p1, E1, rfl, hv1, hm1⟩
  go_wp2_with fail
  refine (rnew_any n f _).mono ?_
  rintro e w2 ⟨p2, E2, rfl, hv2, hm2⟩
  have hm2 := hm1.nil_then hm2
  obtain rfl := hv1.same hv2
  have hf1 := hv1.form
  clear hv1 hv2 hm1
  go_wp2_with fail
  refine (new_any _ _ _).mono ?_
  rintro e w3 ⟨p3, E3, rfl, hv3, hm3⟩
  have hm3 := hm2.nil_then hm3
  go_wp2_with fail
  refine (rnew_any _ _ _).mono ?_
  rintro e w4 ⟨p4, E4, rfl, hv4, hm4⟩
  have hm4 := hm3.nil_then hm4
  obtain rfl := hv3.same hv4
  have hf3 := hv3.form
  clear hv3 hv4 hm2 hm3
  have e1 : (E2 == E2) = true := by simp
  have e2 : (E4 == E4) = true := by simp
  rcases hf1 with ⟨rfl, rfl⟩ | ⟨a1, rfl, rfl⟩ <;> rcases hf3 with ⟨rfl, rfl⟩ | ⟨a3, rfl, rfl⟩
  · go_wp2_with fail
    have hA := at_alloc w4 (.cells #[.int .i64 0, .slice none 0 0, .pointer none, .int .i64 0] 46 (0, 0))
    have hB := at_alloc (w4.alloc (.cells #[.int .i64 0, .slice none 0 0, .pointer none, .int .i64 0] 46 (0, 0))) (.cells #[.pointer none, .pointer (some ⟨w4.heap.size, 0, none⟩)] 23 (0, 0))
    have hA := at_alloc_old (o := .cells #[.pointer none, .pointer (some ⟨w4.heap.size, 0, none⟩)] 23 (0, 0)) hA
    have hm5 := (hm4.alloc (.cells #[.int .i64 0, .slice none 0 0, .pointer none, .int .i64 0] 46 (0, 0))).alloc (.cells #[.pointer none, .pointer (some ⟨w4.heap.size, 0, none⟩)] 23 (0, 0))
    have hsz : (w4.alloc (.cells #[.int .i64 0, .slice none 0 0, .pointer none, .int .i64 0] 46 (0, 0))).heap.size = w4.heap.size + 1 := by simp
    rw [hsz] at hB
    clear hsz hm4
    generalize (w4.alloc (.cells #[.int .i64 0, .slice none 0 0, .pointer none, .int .i64 0] 46 (0, 0))).alloc (.cells #[.pointer none, .pointer (some ⟨w4.heap.size, 0, none⟩)] 23 (0, 0)) = w5 at *
    generalize w4.heap.size = q at *
    go_loopw [90] (fun i wr => ∃ j : Nat, j ≤ 2 ∧ i = .int .i64 j ∧ Mod [] w5 wr) (fun i _ => 2 - (intOf i).toNat)
    case atStart => exact ⟨0, by omega, rfl, Mod.refl _ _⟩
    case round =>
      obtain ⟨j, hj, rfl, hm6⟩ := hrel
      have hBr := hm6.at hB (by simp)
      have hcB := cells_of hBr
      by_cases hj2 : j < 2
      · obtain ⟨p, hp, hN⟩ : ∃ p, wr.cell? ⟨q + 1, j, none⟩ = some (.pointer p) ∧ Nul w5 p := by
          rcases (show j = 0 ∨ j = 1 by omega) with rfl | rfl
          · exact ⟨none, by rw [hcB]; rfl, .inl rfl⟩
          · exact ⟨some ⟨q, 0, none⟩, by rw [hcB]; rfl, .inr ⟨q, rfl, hA⟩⟩
        clear hcB hBr
        go_wp2_with fail
        refine (nul_issue (hN.mod hm6) _).mono ?_
        rintro e w7 ⟨rfl, hm7⟩
        have hm7 := hm6.nil_then hm7
        clear hm6
        go_wp2_with fail
        refine (nul_live (hN.mod hm7) _).mono ?_
        rintro e w8 ⟨rfl, hm8⟩
        have hm8 := hm7.nil_then hm8
        clear hm7
        go_wp2_with fail
        refine (nul_end (hN.mod hm8) _).mono ?_
        rintro e w9 ⟨rfl, hm9⟩
        have hm9 := hm8.nil_then hm9
        clear hm8
        go_wp2_with fail
        refine (nul_size (hN.mod hm9)).mono ?_
        rintro e w10 ⟨rfl, hm10⟩
        have hm10 := hm9.nil_then hm10
        clear hm9
        go_wp2_with fail
        refine (nul_retired (hN.mod hm10)).mono ?_
        rintro e w11 ⟨rfl, hm11⟩
        have hm11 := hm10.nil_then hm11
        clear hm10
        go_wp2_with fail
        refine (nul_pool (hN.mod hm11)).mono ?_
        rintro e w12 ⟨rfl, hm12⟩
        have hm12 := hm11.nil_then hm12
        clear hm11
        go_wp2_with fail
        go_roundw
        case rel => exact ⟨j + 1, by omega, by go_num, hm12⟩
        case measure => simp [intOf]; omega
      · go_wp2_with fail
        refine (awake_ok _).mono ?_
        rintro e w6 ⟨rfl, hm7⟩
        go_wp2_with fail
        go_ret
        exact ⟨rfl, (hm5.nil_then hm6).nil_then hm7⟩
  · go_wp2_with fail
    have hA := at_alloc w4 (.cells #[.int .i64 0, .slice none 0 0, .pointer none, .int .i64 0] 46 (0, 0))
    have hB := at_alloc (w4.alloc (.cells #[.int .i64 0, .slice none 0 0, .pointer none, .int .i64 0] 46 (0, 0))) (.cells #[.pointer none, .pointer (some ⟨w4.heap.size, 0, none⟩)] 23 (0, 0))
    have hA := at_alloc_old (o := .cells #[.pointer none, .pointer (some ⟨w4.heap.size, 0, none⟩)] 23 (0, 0)) hA
    have hm5 := (hm4.alloc (.cells #[.int .i64 0, .slice none 0 0, .pointer none, .int .i64 0] 46 (0, 0))).alloc (.cells #[.pointer none, .pointer (some ⟨w4.heap.size, 0, none⟩)] 23 (0, 0))
    have hsz : (w4.alloc (.cells #[.int .i64 0, .slice none 0 0, .pointer none, .int .i64 0] 46 (0, 0))).heap.size = w4.heap.size + 1 := by simp
    rw [hsz] at hB
    clear hsz hm4
    generalize (w4.alloc (.cells #[.int .i64 0, .slice none 0 0, .pointer none, .int .i64 0] 46 (0, 0))).alloc (.cells #[.pointer none, .pointer (some ⟨w4.heap.size, 0, none⟩)] 23 (0, 0)) = w5 at *
    generalize w4.heap.size = q at *
    go_loopw [90] (fun i wr => ∃ j : Nat, j ≤ 2 ∧ i = .int .i64 j ∧ Mod [] w5 wr) (fun i _ => 2 - (intOf i).toNat)
    case atStart => exact ⟨0, by omega, rfl, Mod.refl _ _⟩
    case round =>
      obtain ⟨j, hj, rfl, hm6⟩ := hrel
      have hBr := hm6.at hB (by simp)
      have hcB := cells_of hBr
      by_cases hj2 : j < 2
      · obtain ⟨p, hp, hN⟩ : ∃ p, wr.cell? ⟨q + 1, j, none⟩ = some (.pointer p) ∧ Nul w5 p := by
          rcases (show j = 0 ∨ j = 1 by omega) with rfl | rfl
          · exact ⟨none, by rw [hcB]; rfl, .inl rfl⟩
          · exact ⟨some ⟨q, 0, none⟩, by rw [hcB]; rfl, .inr ⟨q, rfl, hA⟩⟩
        clear hcB hBr
        go_wp2_with fail
        refine (nul_issue (hN.mod hm6) _).mono ?_
        rintro e w7 ⟨rfl, hm7⟩
        have hm7 := hm6.nil_then hm7
        clear hm6
        go_wp2_with fail
        refine (nul_live (hN.mod hm7) _).mono ?_
        rintro e w8 ⟨rfl, hm8⟩
        have hm8 := hm7.nil_then hm8
        clear hm7
        go_wp2_with fail
        refine (nul_end (hN.mod hm8) _).mono ?_
        rintro e w9 ⟨rfl, hm9⟩
        have hm9 := hm8.nil_then hm9
        clear hm8
        go_wp2_with fail
        refine (nul_size (hN.mod hm9)).mono ?_
        rintro e w10 ⟨rfl, hm10⟩
        have hm10 := hm9.nil_then hm10
        clear hm9
        go_wp2_with fail
        refine (nul_retired (hN.mod hm10)).mono ?_
        rintro e w11 ⟨rfl, hm11⟩
        have hm11 := hm10.nil_then hm11
        clear hm10
        go_wp2_with fail
        refine (nul_pool (hN.mod hm11)).mono ?_
        rintro e w12 ⟨rfl, hm12⟩
        have hm12 := hm11.nil_then hm12
        clear hm11
        go_wp2_with fail
        go_roundw
        case rel => exact ⟨j + 1, by omega, by go_num, hm12⟩
        case measure => simp [intOf]; omega
      · go_wp2_with fail
        refine (awake_ok _).mono ?_
        rintro e w6 ⟨rfl, hm7⟩
        go_wp2_with fail
        go_ret
        exact ⟨rfl, (hm5.nil_then hm6).nil_then hm7⟩
  · go_wp2_with fail
    have hA := at_alloc w4 (.cells #[.int .i64 0, .slice none 0 0, .pointer none, .int .i64 0] 46 (0, 0))
    have hB := at_alloc (w4.alloc (.cells #[.int .i64 0, .slice none 0 0, .pointer none, .int .i64 0] 46 (0, 0))) (.cells #[.pointer none, .pointer (some ⟨w4.heap.size, 0, none⟩)] 23 (0, 0))
    have hA := at_alloc_old (o := .cells #[.pointer none, .pointer (some ⟨w4.heap.size, 0, none⟩)] 23 (0, 0)) hA
    have hm5 := (hm4.alloc (.cells #[.int .i64 0, .slice none 0 0, .pointer none, .int .i64 0] 46 (0, 0))).alloc (.cells #[.pointer none, .pointer (some ⟨w4.heap.size, 0, none⟩)] 23 (0, 0))
    have hsz : (w4.alloc (.cells #[.int .i64 0, .slice none 0 0, .pointer none, .int .i64 0] 46 (0, 0))).heap.size = w4.heap.size + 1 := by simp
    rw [hsz] at hB
    clear hsz hm4
    generalize (w4.alloc (.cells #[.int .i64 0, .slice none 0 0, .pointer none, .int .i64 0] 46 (0, 0))).alloc (.cells #[.pointer none, .pointer (some ⟨w4.heap.size, 0, none⟩)] 23 (0, 0)) = w5 at *
    generalize w4.heap.size = q at *
    go_loopw [90] (fun i wr => ∃ j : Nat, j ≤ 2 ∧ i = .int .i64 j ∧ Mod [] w5 wr) (fun i _ => 2 - (intOf i).toNat)
    case atStart => exact ⟨0, by omega, rfl, Mod.refl _ _⟩
    case round =>
      obtain ⟨j, hj, rfl, hm6⟩ := hrel
      have hBr := hm6.at hB (by simp)
      have hcB := cells_of hBr
      by_cases hj2 : j < 2
      · obtain ⟨p, hp, hN⟩ : ∃ p, wr.cell? ⟨q + 1, j, none⟩ = some (.pointer p) ∧ Nul w5 p := by
          rcases (show j = 0 ∨ j = 1 by omega) with rfl | rfl
          · exact ⟨none, by rw [hcB]; rfl, .inl rfl⟩
          · exact ⟨some ⟨q, 0, none⟩, by rw [hcB]; rfl, .inr ⟨q, rfl, hA⟩⟩
        clear hcB hBr
        go_wp2_with fail
        refine (nul_issue (hN.mod hm6) _).mono ?_
        rintro e w7 ⟨rfl, hm7⟩
        have hm7 := hm6.nil_then hm7
        clear hm6
        go_wp2_with fail
        refine (nul_live (hN.mod hm7) _).mono ?_
        rintro e w8 ⟨rfl, hm8⟩
        have hm8 := hm7.nil_then hm8
        clear hm7
        go_wp2_with fail
        refine (nul_end (hN.mod hm8) _).mono ?_
        rintro e w9 ⟨rfl, hm9⟩
        have hm9 := hm8.nil_then hm9
        clear hm8
        go_wp2_with fail
        refine (nul_size (hN.mod hm9)).mono ?_
        rintro e w10 ⟨rfl, hm10⟩
        have hm10 := hm9.nil_then hm10
        clear hm9
        go_wp2_with fail
        refine (nul_retired (hN.mod hm10)).mono ?_
        rintro e w11 ⟨rfl, hm11⟩
        have hm11 := hm10.nil_then hm11
        clear hm10
        go_wp2_with fail
        refine (nul_pool (hN.mod hm11)).mono ?_
        rintro e w12 ⟨rfl, hm12⟩
        have hm12 := hm11.nil_then hm12
        clear hm11
        go_wp2_with fail
        go_roundw
        case rel => exact ⟨j + 1, by omega, by go_num, hm12⟩
        case measure => simp [intOf]; omega
      · go_wp2_with fail
        refine (awake_ok _).mono ?_
        rintro e w6 ⟨rfl, hm7⟩
        go_wp2_with fail
        go_ret
        exact ⟨rfl, (hm5.nil_then hm6).nil_then hm7⟩
  · go_wp2_with fail
    have hA := at_alloc w4 (.cells #[.int .i64 0, .slice none 0 0, .pointer none, .int .i64 0] 46 (0, 0))
    have hB := at_alloc (w4.alloc (.cells #[.int .i64 0, .slice none 0 0, .pointer none, .int .i64 0] 46 (0, 0))) (.cells #[.pointer none, .pointer (some ⟨w4.heap.size, 0, none⟩)] 23 (0, 0))
    have hA := at_alloc_old (o := .cells #[.pointer none, .pointer (some ⟨w4.heap.size, 0, none⟩)] 23 (0, 0)) hA
    have hm5 := (hm4.alloc (.cells #[.int .i64 0, .slice none 0 0, .pointer none, .int .i64 0] 46 (0, 0))).alloc (.cells #[.pointer none, .pointer (some ⟨w4.heap.size, 0, none⟩)] 23 (0, 0))
    have hsz : (w4.alloc (.cells #[.int .i64 0, .slice none 0 0, .pointer none, .int .i64 0] 46 (0, 0))).heap.size = w4.heap.size + 1 := by simp
    rw [hsz] at hB
    clear hsz hm4
    generalize (w4.alloc (.cells #[.int .i64 0, .slice none 0 0, .pointer none, .int .i64 0] 46 (0, 0))).alloc (.cells #[.pointer none, .pointer (some ⟨w4.heap.size, 0, none⟩)] 23 (0, 0)) = w5 at *
    generalize w4.heap.size = q at *
    go_loopw [90] (fun i wr => ∃ j : Nat, j ≤ 2 ∧ i = .int .i64 j ∧ Mod [] w5 wr) (fun i _ => 2 - (intOf i).toNat)
    case atStart => exact ⟨0, by omega, rfl, Mod.refl _ _⟩
    case round =>
      obtain ⟨j, hj, rfl, hm6⟩ := hrel
      have hBr := hm6.at hB (by simp)
      have hcB := cells_of hBr
      by_cases hj2 : j < 2
      · obtain ⟨p, hp, hN⟩ : ∃ p, wr.cell? ⟨q + 1, j, none⟩ = some (.pointer p) ∧ Nul w5 p := by
          rcases (show j = 0 ∨ j = 1 by omega) with rfl | rfl
          · exact ⟨none, by rw [hcB]; rfl, .inl rfl⟩
          · exact ⟨some ⟨q, 0, none⟩, by rw [hcB]; rfl, .inr ⟨q, rfl, hA⟩⟩
        clear hcB hBr
        go_wp2_with fail
        refine (nul_issue (hN.mod hm6) _).mono ?_
        rintro e w7 ⟨rfl, hm7⟩
        have hm7 := hm6.nil_then hm7
        clear hm6
        go_wp2_with fail
        refine (nul_live (hN.mod hm7) _).mono ?_
        rintro e w8 ⟨rfl, hm8⟩
        have hm8 := hm7.nil_then hm8
        clear hm7
        go_wp2_with fail
        refine (nul_end (hN.mod hm8) _).mono ?_
        rintro e w9 ⟨rfl, hm9⟩
        have hm9 := hm8.nil_then hm9
        clear hm8
        go_wp2_with fail
        refine (nul_size (hN.mod hm9)).mono ?_
        rintro e w10 ⟨rfl, hm10⟩
        have hm10 := hm9.nil_then hm10
        clear hm9
        go_wp2_with fail
        refine (nul_retired (hN.mod hm10)).mono ?_
        rintro e w11 ⟨rfl, hm11⟩
        have hm11 := hm10.nil_then hm11
        clear hm10
        go_wp2_with fail
        refine (nul_pool (hN.mod hm11)).mono ?_
        rintro e w12 ⟨rfl, hm12⟩
        have hm12 := hm11.nil_then hm12
        clear hm11
        go_wp2_with fail
        go_roundw
        case rel => exact ⟨j + 1, by omega, by go_num, hm12⟩
        case measure => simp [intOf]; omega
      · go_wp2_with fail
        refine (awake_ok _).mono ?_
        rintro e w6 ⟨rfl, hm7⟩
        go_wp2_with fail
        go_ret
        exact ⟨rfl, (hm5.nil_then hm6).nil_then hm7⟩
end Go.Proofs.Ytgoiifffpdednaa
