/- The handle table: New, of the program and of the definition. -/
import Derived.Test.YtcdmapllligjhaaTabG
namespace Go.Proofs.Ytcdmapllligjhaa
open Go Go.RowKit Go.Stg

theorem info_entry : (Try.prog.info? 39).map (fun i => (i.zero, i.size, i.bytes)) = some (some (entV ent0), 5, 40) := by kernel_rfl
theorem make_entries (n : Nat) (hn : n ≤ 4096) (w : World) :
    ∃ w', (Instr.makeSlice 29 (.int .i64 n) (.int .i64 n)).run Try.prog w = .ok (.slice (some ⟨w.heap.size, 0, none⟩) n n) w' ∧ w'.ownsRow w.heap.size 39 5 (.slice (some ⟨w.heap.size, 0, none⟩) n n) n (flat ent (List.replicate n ent0)) ∧ Mod [] w w' := by
  obtain ⟨i0, hi, hz0, hz1, hz2⟩ := info_parts info_entry
  obtain ⟨w', h1, h2, h3⟩ := run_makeSlice_full (P := Try.prog) w w.heap.size 29 39 i0 (entV ent0) 5 Try.underlying29 hi hz0 hz1 .i64 .i64 n (by omega) (by rw [hz2]; omega) (by unfold maxLen; omega) (Nat.le_refl _)
  rw [made_flat ent_length (by omega) ent0 (entV ent0).cells rfl] at h2
  exact ⟨w', h1, h2, (Mod.refl [] w).grown h3 (by simp)⟩
theorem tnew_bad (n f : Int) (h : n < 0 ∨ 4096 < n ∨ f < 1 ∨ 4294967295 < f) (w : World) : Calls Try.prog 8 #[.int .i64 n, .int .i64 f] w fun e w' => e = .returned (.tuple #[.pointer none, .int .i64 1]) ∧ Mod [] w w' := by
  go_enter Try.func8, Try.ntmps8
  go_wp2_with fail
  refine (new_bad n f h _).mono ?_
  rintro e w1 ⟨rfl, hm⟩
  clear h
  go_wp2_with fail
  go_ret2
  exact ⟨rfl, hm⟩
theorem rtnew_bad (n f : Int) (h : n < 0 ∨ 4096 < n ∨ f < 1 ∨ 4294967295 < f) (w : World) : Calls Try.prog 17 #[.int .i64 n, .int .i64 f] w fun e w' => e = .returned (.tuple #[.pointer none, .int .i64 1]) ∧ Mod [] w w' := by
  go_enter Try.func17, Try.ntmps17
  go_wp2_with fail
  refine (rnew_bad n f h _).mono ?_
  rintro e w1 ⟨rfl, hm⟩
  clear h
  go_wp2_with fail
  go_ret2
  exact ⟨rfl, hm⟩
def start (n : Nat) : TS := ⟨⟨fresh n, upTo n, 0⟩, List.replicate n ent0⟩
theorem TInv.start (n : Nat) (first : Int) : TInv n first (start n) := by
  refine ⟨GInv.start n first, by simp [Go.Proofs.Ytcdmapllligjhaa.start], fun j hj hl => ?_⟩
  have : slotN (fresh n) j = (0, false) := by rw [slotN_at (by rw [fresh_length]; exact hj)]; simp [fresh]
  simp only [Go.Proofs.Ytcdmapllligjhaa.start] at hl
  rw [this] at hl
  cases hl
section
variable (n : Nat) (first : Int) (hn : n ≤ 4096) (hf1 : 1 ≤ first) (hf2 : first ≤ 4294967295)
include hn hf1 hf2
theorem tnew_ok {F : List Nat} {W w : World} {cs : List Comp} (hS : Scene F W cs w) : Calls Try.prog 8 #[.int .i64 n, .int .i64 first] w fun e w' => ∃ tb ev b pb sl, e = .returned (.tuple #[.pointer (some ⟨tb, 0, none⟩), .int .i64 0]) ∧ Scene F W (tabC tb ev b pb sl first (start n) :: cs) w' := by
  have hM := Lib.hid (make_entries n hn)
  have hN := Lib.hid (new_ok n first hn hf1 hf2 w)
  go_enter Try.func8, Try.ntmps8
  go_wp2_with fail
  refine hN.out.mono ?_
  rintro e w1 ⟨b, pb, sl, psv, rfl, hm1, hG1, hfo1⟩
  obtain ⟨w2, hr2, hrow2, hm2⟩ := hM.out w1
  have hS1 : Scene [] w [genC b pb sl first ⟨fresh n, upTo n, 0⟩] w1 := (Scene.empty w).add hm1 ⟨psv, hG1, rfl⟩ hfo1
  have hS2 : Scene [] w [rowC (.slice (some ⟨w1.heap.size, 0, none⟩) n n) n 39 5 (flat ent (List.replicate n ent0)), genC b pb sl first ⟨fresh n, upTo n, 0⟩] w2 :=
    hS1.add (c := rowC (.slice (some ⟨w1.heap.size, 0, none⟩) n n) n 39 5 (flat ent (List.replicate n ent0))) hm2 ⟨row_base hrow2 (Nat.zero_le _), rfl⟩ (fun x hx => by simp [Value.ownBlock] at hx; omega)
  have hS3 := Lib.hid (hS2.alloc (.cells #[.pointer (some ⟨b, 0, none⟩), .slice (some ⟨w1.heap.size, 0, none⟩) n n] 63 (0, 0)))
  clear hm1 hG1 hfo1 hS1 hS2 hrow2 hm2 hN hM
  go_wp2_with fail
  go_ret2
  obtain ⟨f', q1, q2, q3⟩ := hS3.out.done
  have hA : Agree (start n) (List.replicate n ent0) := ⟨rfl, fun _ _ => rfl⟩
  have hon : (tabC w2.heap.size (.slice (some ⟨w1.heap.size, 0, none⟩) n n) b pb sl first (start n)).on _ f' := ⟨List.replicate n ent0, hA, by unfold tabP; rw [List.length_replicate]; exact q1⟩
  exact ⟨w2.heap.size, .slice (some ⟨w1.heap.size, 0, none⟩) n n, b, pb, sl, rfl, hS.add q2 hon (fun x hx => (q3 x hx).resolve_left (by simp))⟩
theorem rtnew_ok {F : List Nat} {W w : World} {cs : List Comp} (hS : Scene F W cs w) : Calls Try.prog 17 #[.int .i64 n, .int .i64 first] w fun e w' => ∃ tb ev b gv lv, e = .returned (.tuple #[.pointer (some ⟨tb, 0, none⟩), .int .i64 0]) ∧ Scene F W (rtabC tb ev b gv lv first (start n) :: cs) w' := by
  have hM := Lib.hid (make_entries n hn)
  have hN := Lib.hid (rnew_ok n first hn hf1 hf2 w)
  go_enter Try.func17, Try.ntmps17
  go_wp2_with fail
  refine hN.out.mono ?_
  rintro e w1 ⟨b, gv, lv, fv, rfl, hm1, hG1, hfo1⟩
  obtain ⟨w2, hr2, hrow2, hm2⟩ := hM.out w1
  have hS1 : Scene [] w [rgenC b gv lv first ⟨fresh n, upTo n, 0⟩] w1 := (Scene.empty w).add hm1 ⟨fv, hG1, rfl⟩ hfo1
  have hS2 : Scene [] w [rowC (.slice (some ⟨w1.heap.size, 0, none⟩) n n) n 39 5 (flat ent (List.replicate n ent0)), rgenC b gv lv first ⟨fresh n, upTo n, 0⟩] w2 :=
    hS1.add (c := rowC (.slice (some ⟨w1.heap.size, 0, none⟩) n n) n 39 5 (flat ent (List.replicate n ent0))) hm2 ⟨row_base hrow2 (Nat.zero_le _), rfl⟩ (fun x hx => by simp [Value.ownBlock] at hx; omega)
  have hS3 := Lib.hid (hS2.alloc (.cells #[.pointer (some ⟨b, 0, none⟩), .slice (some ⟨w1.heap.size, 0, none⟩) n n] 84 (0, 0)))
  clear hm1 hG1 hfo1 hS1 hS2 hrow2 hm2 hN hM
  go_wp2_with fail
  go_ret2
  obtain ⟨f', q1, q2, q3⟩ := hS3.out.done
  have hA : Agree (start n) (List.replicate n ent0) := ⟨rfl, fun _ _ => rfl⟩
  have hon : (rtabC w2.heap.size (.slice (some ⟨w1.heap.size, 0, none⟩) n n) b gv lv first (start n)).on _ f' := ⟨List.replicate n ent0, hA, by unfold rtabP; rw [List.length_replicate]; exact q1⟩
  exact ⟨w2.heap.size, .slice (some ⟨w1.heap.size, 0, none⟩) n n, b, gv, lv, rfl, hS.add q2 hon (fun x hx => (q3 x hx).resolve_left (by simp))⟩
end
end Go.Proofs.Ytcdmapllligjhaa
