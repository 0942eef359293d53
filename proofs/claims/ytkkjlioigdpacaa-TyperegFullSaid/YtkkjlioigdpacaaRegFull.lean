/- TyperegFull: the walk of the law. -/
import Derived.Test.YtkkjlioigdpacaaRegP
namespace Go.Proofs.Ytkkjlioigdpacaa
open Go Go.RowKit Go.Stg

def oneU8 : List Fld := [(1, 0)]
def fullR (i : Nat) : List Ty := (List.range (min i 255)).map fun j : Nat => ((j : Int) + 1, oneU8)
theorem fullR_length (i : Nat) : (fullR i).length = min i 255 := by simp [fullR]
theorem fullR_get (i j : Nat) (h : j < (fullR i).length) : (fullR i)[j] = ((j : Int) + 1, oneU8) := by simp [fullR]
theorem fullR_mem (i : Nat) (k : Int) : (k, oneU8) ∈ fullR i ↔ 1 ≤ k ∧ k ≤ (min i 255 : Nat) := by
  unfold fullR
  rw [List.mem_map]
  constructor
  · rintro ⟨j, hj, e⟩
    rw [List.mem_range] at hj
    have : (j : Int) + 1 = k := congrArg Prod.fst e
    omega
  · rintro ⟨h1, h2⟩
    refine ⟨(k - 1).toNat, by rw [List.mem_range]; omega, ?_⟩
    rw [show (((k - 1).toNat : Nat) : Int) + 1 = k by omega]
theorem err_u8 {k : Int} (h1 : 1 ≤ k) (h2 : k ≤ 65536) : errT k oneU8 = 0 := by
  have hs : sizeT k oneU8 = k := by unfold sizeT; rw [if_pos (by omega)]; show k * 1 = k; omega
  unfold errT
  rw [if_neg (by omega), if_neg (by omega), if_neg (by rintro (⟨h, _⟩ | ⟨_, h⟩); omega; exact h rfl), if_neg (show ¬ 32 < oneU8.length by decide), if_neg (show ¬ firstErr oneU8 ≠ 0 by decide), hs, if_neg (by omega)]
theorem full_new {i : Nat} (h : i < 255) : regN (fullR i) ((i : Int) + 1, oneU8) = fullR (i + 1) ∧ regV (fullR i) ((i : Int) + 1, oneU8) = .tuple #[.int .i64 (i + 1), .int .i64 0] := by
  have hno : ((i : Int) + 1, oneU8) ∉ fullR i := by rw [fullR_mem]; omega
  obtain ⟨k1, k2⟩ := reg_new (t := ((i : Int) + 1, oneU8)) (err_u8 (by omega) (by omega)) hno (by rw [fullR_length]; omega)
  rw [k1, k2, fullR_length, Nat.min_eq_left (by omega)]
  refine ⟨?_, rfl⟩
  unfold fullR
  rw [Nat.min_eq_left (by omega), Nat.min_eq_left (by omega), List.range_succ, List.map_append]; rfl
theorem full_big {i : Nat} (h : 255 ≤ i) : regN (fullR i) ((i : Int) + 1, oneU8) = fullR (i + 1) ∧ (i < 65536 → regV (fullR i) ((i : Int) + 1, oneU8) = .tuple #[.int .i64 0, .int .i64 4]) := by
  have e : fullR (i + 1) = fullR i := by unfold fullR; rw [Nat.min_eq_right (by omega), Nat.min_eq_right (by omega)]
  have hno : ((i : Int) + 1, oneU8) ∉ fullR i := by rw [fullR_mem]; omega
  rw [e]
  refine ⟨?_, fun h2 => (reg_full (t := ((i : Int) + 1, oneU8)) (err_u8 (by omega) (by omega)) hno (by rw [fullR_length]; omega)).2⟩
  unfold regN
  rw [if_neg]
  rw [fullR_length]
  omega
theorem full_known {i : Nat} {k : Int} (h1 : 1 ≤ k) (h2 : k ≤ (min i 255 : Nat)) : regN (fullR i) (k, oneU8) = fullR i ∧ regV (fullR i) (k, oneU8) = .tuple #[.int .i64 k, .int .i64 0] := by
  obtain ⟨k1, k2⟩ := reg_known (t := (k, oneU8)) (err_u8 h1 (by omega)) ((fullR_mem i k).2 ⟨h1, h2⟩)
  have hk : (k - 1).toNat < (fullR i).length := by rw [fullR_length]; omega
  have he : (fullR i)[(k - 1).toNat] = (k, oneU8) := by rw [fullR_get, show (((k - 1).toNat : Nat) : Int) + 1 = k by omega]
  have hno : (k, oneU8) ∉ (fullR i).take (k - 1).toNat := fun hm => by
    obtain ⟨j, hj, e⟩ := List.mem_iff_getElem.1 hm
    rw [List.getElem_take, fullR_get] at e
    have : (j : Int) + 1 = k := congrArg Prod.fst e
    rw [List.length_take] at hj
    omega
  have hi := idxT_here hk hno he
  unfold idxT at hi
  rw [if_pos ((fullR_mem i k).2 ⟨h1, h2⟩)] at hi
  rw [k1, k2, hi, show (((k - 1).toNat : Nat) : Int) + 1 = k by omega]
  exact ⟨rfl, rfl⟩
theorem full_form (R : List Ty) : regN R (0, []) = R ∧ regV R (0, []) = .tuple #[.int .i64 0, .int .i64 3] := reg_bad (t := (0, [])) (by decide)
set_option maxHeartbeats 4000000 in
set_option maxRecDepth 10000 in
theorem full_walk (n a : Int) (hn : 0 ≤ n) (hn2 : n ≤ 255) (ha : 0 ≤ a) (ha2 : a ≤ 255) (w : World) :
    Calls Try.prog 3 #[.int .u8 n, .int .u8 a] w fun e w' => e = .returned (.bool true) ∧ Mod [] w w' := by
  obtain ⟨K, hK⟩ : ∃ K : Nat, (K : Int) = 250 + n % 10 := ⟨(250 + n % 10).toNat, by omega⟩
  have hK1 : 250 ≤ K ∧ K ≤ 259 := by omega
  go_enter Try.func3, Try.ntmps3
  go_wp2_with fail
  refine (sc_new (Scene.empty w)).mono ?_
  rintro e w1 ⟨rb, rfl, _, hS⟩
  have hSH := Lib.hid hS
  clear hS
  go_wp2_with fail
  rw [← hK]
  clear hK
  go_loopw [7, 8, 9] (fun i _ _ wr => ∃ j : Nat, j ≤ K ∧ i = .int .i64 j ∧ Scene [] w [regC 58 rb (fullR j)] wr) (fun i _ _ _ => K - (intOf i).toNat)
  case atStart => exact ⟨0, by omega, rfl, by simpa [fullR] using hSH.out⟩
  case round =>
    obtain ⟨j, hj, rfl, hS⟩ := hrel
    have hS1 := hS.alloc (.cells #[.int .i64 1, .int .i64 0] 28)
    have hSH := Lib.hid hS
    have hS1H := Lib.hid hS1
    clear hS hS1
    by_cases hlt : j < K
    · go_wp2_with fail
      refine (sc_register 1 hS1H.out rfl (fields_one (hS1H.out.block 0 rfl)) (by omega) (by omega)).mono ?_
      rintro e w2 ⟨rfl, hS2⟩
      by_cases h2 : j < 255
      · obtain ⟨k1, k2⟩ := full_new h2
        have h3 : ¬ 255 ≤ j := by omega
        unfold oneU8 at k1 k2
        rw [k2]
        rw [k1] at hS2
        have hS3 := Lib.hid (hS2.erase 0)
        clear hS2 k1 k2
        go_wp2_with fail
        go_roundw
        case rel => exact ⟨j + 1, by omega, by go_num, hS3.out⟩
        case measure => simp [intOf]; omega
      · obtain ⟨k1, k2⟩ := full_big (show 255 ≤ j by omega)
        have k2 := k2 (by omega)
        have h3 : 255 ≤ j := by omega
        unfold oneU8 at k1 k2
        rw [k2]
        rw [k1] at hS2
        have hS3 := Lib.hid (hS2.erase 0)
        clear hS2 k1 k2
        go_wp2_with fail
        go_roundw
        case rel => exact ⟨j + 1, by omega, by go_num, hS3.out⟩
        case measure => simp [intOf]; omega
    · obtain rfl : j = K := by omega
      obtain ⟨A, hA⟩ : ∃ A : Int, 1 + a % 200 = A := ⟨_, rfl⟩
      have hA1 : 1 ≤ A ∧ A ≤ 200 := by omega
      go_wp2_with fail
      obtain ⟨k1, k2⟩ := full_known (i := j) (k := A) (by omega) (by omega)
      unfold oneU8 at k1 k2
      refine (sc_register 1 hS1H.out rfl (fields_one (hS1H.out.block 0 rfl)) (by omega) (by omega)).mono ?_
      rintro e w2 ⟨rfl, hS2⟩
      rw [k2]
      rw [k1] at hS2
      have hS3 := Lib.hid (hS2.erase 0)
      clear hS2 k1 k2 hS1H hSH
      go_wp2_with fail
      obtain ⟨k1, k2⟩ := full_form (fullR j)
      refine (sc_register 0 hS3.out rfl (.inl ⟨rfl, rfl⟩) (by omega) (by omega)).mono ?_
      rintro e w3 ⟨rfl, hS4⟩
      rw [k2]
      rw [k1] at hS4
      have hS4 := Lib.hid hS4
      clear k1 k2 hS3
      go_wp2_with fail
      refine (awake_ok _).mono ?_
      rintro e w4 ⟨rfl, hm⟩
      have hS5 := Lib.hid (hS4.out.then hm)
      have hlen := fullR_length j
      clear hS4 hm
      go_wp2_with fail
      refine (sc_rlen 0 hS5.out rfl).mono ?_
      rintro e w5 ⟨rfl, hm⟩
      have hmm := Lib.hid (hS5.out.mod.nil_then hm)
      rw [hlen]
      clear hS5 hm hlen
      by_cases h2 : j < 255
      · rw [Nat.min_eq_left (by omega)]
        go_wp2_with fail
        all_goals go_ret
        all_goals exact ⟨by first | rfl | (simp; done) | (simp; omega), hmm.out⟩
      · rw [Nat.min_eq_right (by omega)]
        go_wp2_with fail
        all_goals go_ret
        all_goals exact ⟨by first | rfl | (simp; done) | (simp; omega), hmm.out⟩
end Go.Proofs.Ytkkjlioigdpacaa
