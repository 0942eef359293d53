/- Registries in scenes; the laws' awake. -/
import Derived.Test.YtkkjlioigdpacaaRegLike
namespace Go.Proofs.Ytkkjlioigdpacaa
open Go Go.RowKit Go.Stg

section
variable {F : List Nat} {W w : World} {cs : List Comp}
theorem sc_new (h : Scene F W cs w) : Calls Try.prog 8 #[] w fun e w' => ∃ rb, e = .returned (.pointer (some ⟨rb, 0, none⟩)) ∧ w.heap.size ≤ rb ∧ Scene F W (regC 58 rb [] :: cs) w' :=
  (new_ok w).mono fun e w' ⟨h1, h2⟩ => by
    subst h2
    exact ⟨_, h1, Nat.le_refl _, h.add (c := regC 58 w.heap.size []) ((Mod.refl [] w).alloc _) (reg_fresh 58 (at_alloc w _)) (by simp)⟩
theorem sc_register (i : Nat) {rb : Nat} {R : List Ty} (h : Scene F W cs w) (hi : cs[i]? = some (regC 58 rb R)) {len : Int} {v : Value} {fs : List Fld} (hF : FieldsAt w v fs) (hn : -9223372036854775808 ≤ len) (hn2 : len ≤ 9223372036854775807) :
    Calls Try.prog 9 #[.pointer (some ⟨rb, 0, none⟩), .agg #[.int .i64 len, v]] w fun e w' => e = .returned (regV R (len, fs)) ∧ Scene F W (cs.set i (regC 58 rb (regN R (len, fs)))) w' :=
  h.call i hi fun _ hf => register_ok hf len v fs hF hn hn2
theorem sc_rregister (i : Nat) {rb : Nat} {R : List Ty} (h : Scene F W cs w) (hi : cs[i]? = some (regC 49 rb R)) {len : Int} {v : Value} {fs : List Fld} (hF : FieldsAt w v fs) (hn : -9223372036854775808 ≤ len) (hn2 : len ≤ 9223372036854775807) :
    Calls Try.prog 16 #[.pointer (some ⟨rb, 0, none⟩), .agg #[.int .i64 len, v]] w fun e w' => e = .returned (regV R (len, fs)) ∧ Scene F W (cs.set i (regC 49 rb (regN R (len, fs)))) w' :=
  h.call i hi fun _ hf => rregister_ok hf len v fs hF hn hn2
theorem sc_lookup (i : Nat) {rb : Nat} {R : List Ty} (h : Scene F W cs w) (hi : cs[i]? = some (regC 58 rb R)) (tag : Int) : Calls Try.prog 14 #[.pointer (some ⟨rb, 0, none⟩), .int .i64 tag] w (LookPost R tag w) :=
  let ⟨_, h1, _⟩ := h.part i hi; lookup_ok h1 tag
theorem sc_rlen (i : Nat) {rb : Nat} {R : List Ty} (h : Scene F W cs w) (hi : cs[i]? = some (regC 58 rb R)) : Calls Try.prog 11 #[.pointer (some ⟨rb, 0, none⟩)] w fun e w' => e = .returned (.int .i64 R.length) ∧ Mod [] w w' :=
  let ⟨_, h1, _⟩ := h.part i hi; len_ok h1
end
theorem ex_tag1 : regV [] (0, [(1, 0)]) = .tuple #[.int .i64 1, .int .i64 0] := by kernel_rfl
theorem ex_tag2 : regV [(0, [(1, 0)])] (0, [(2, 0)]) = .tuple #[.int .i64 2, .int .i64 0] := by kernel_rfl
theorem ex_tag3 : regV [(0, [(1, 0)]), (0, [(2, 0)])] (0, [(1, 0)]) = .tuple #[.int .i64 1, .int .i64 0] := by kernel_rfl
theorem ex_reg1 : regN [] (0, [(1, 0)]) = [(0, [(1, 0)])] := by kernel_rfl
theorem ex_reg2 : regN [(0, [(1, 0)])] (0, [(2, 0)]) = [(0, [(1, 0)]), (0, [(2, 0)])] := by kernel_rfl
set_option maxHeartbeats 1000000 in
theorem awake_ok (w : World) : Calls Try.prog 10 #[] w fun e w' => e = .returned (.bool true) ∧ Mod [] w w' := by
  go_enter Try.func10, Try.ntmps10
  go_wp2_with fail
  refine (sc_new (Scene.empty w)).mono ?_
  rintro e w1 ⟨rb, rfl, _, hS⟩
  have hS := (((hS.alloc (.cells #[.int .i64 1, .int .i64 0] 28)).alloc (.cells #[.int .i64 0, .slice (some ⟨w1.heap.size, 0, none⟩) 1 1] 31)).alloc (.cells #[.int .i64 2, .int .i64 0] 28)).alloc (.cells #[.int .i64 0, .slice (some ⟨w1.heap.size + 2, 0, none⟩) 1 1] 31)
  simp only [World.size_alloc] at hS
  go_wp2_with fail
  generalize w1.heap.size = q at *
  refine (sc_register 4 hS rfl (fields_one (hS.block 3 rfl)) (by omega) (by omega)).mono ?_
  rintro e w2 ⟨rfl, hS2⟩
  rw [ex_tag1]
  rw [ex_reg1] at hS2
  have c0 := cells_of (hS2.block 0 rfl)
  clear hS
  have hS2H := Lib.hid hS2
  clear hS2
  go_wp2_with fail
  refine (sc_register 4 hS2H.out rfl (fields_one (hS2H.out.block 1 rfl)) (by omega) (by omega)).mono ?_
  rintro e w3 ⟨rfl, hS3⟩
  rw [ex_tag2]
  rw [ex_reg2] at hS3
  have c2 := cells_of (hS3.block 2 rfl)
  have hS3H := Lib.hid hS3
  clear hS3 c0 hS2H
  go_wp2_with fail
  refine (sc_register 4 hS3H.out rfl (fields_one (hS3H.out.block 3 rfl)) (by omega) (by omega)).mono ?_
  rintro e w4 ⟨rfl, hS4⟩
  rw [ex_tag3]
  have hmm := hS4.mod
  clear hS3H c2 hS4
  go_wp2_with fail
  go_ret
  exact ⟨rfl, hmm⟩
end Go.Proofs.Ytkkjlioigdpacaa
