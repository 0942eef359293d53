/- Made types are valid; parts of scenes, split and spoilt. -/
import Derived.Test.YtkkjlioigdpacaaMakeT
import Derived.Test.YtkkjlioigdpacaaLayS
import Derived.Test.YtkkjlioigdpacaaScene
namespace Go
namespace Stg
theorem Hold.append : ∀ {cs ds : List Comp} {w : World} {f g : List Nat}, Hold cs w f → Hold ds w g → (∀ x ∈ f, x ∉ g) → Hold (cs ++ ds) w (f ++ g)
  | [], _, _, _, _, h, k, _ => by subst h; exact k
  | _ :: _, _, _, _, g, ⟨f1, f2, h1, h2, h3, e⟩, k, hd => by
    subst e
    refine ⟨f1, f2 ++ g, h1, h2.append k fun x hx => hd x (List.mem_append_right _ hx), fun x hx hx2 => ?_, by rw [List.append_assoc]⟩
    rcases List.mem_append.1 hx2 with h | h
    · exact h3 x hx h
    · exact hd x (List.mem_append_left _ hx) h
theorem Scene.split {F : List Nat} {W w : World} {cs ds : List Comp} (h : Scene F W (Comp.all ds :: cs) w) : Scene F W (ds ++ cs) w := by
  obtain ⟨hm, fp, ⟨f, g, h1, h2, h3, e⟩, h4⟩ := h
  subst e
  exact ⟨hm, f ++ g, Hold.append h1 h2 h3, h4⟩
/-- Blocks of which nothing is known. -/
def lostC : Comp := ⟨fun w f => ∀ x ∈ f, x < w.heap.size, fun h hm _ x hx => Nat.lt_of_lt_of_le (h x hx) hm.size, fun h => h⟩
/-- A cell of a part is written, of which no more is wanted. -/
theorem Scene.spoil {F : List Nat} {W w : World} {cs : List Comp} (i : Nat) {c : Comp} {b : Nat} (h : Scene F W cs w) (hi : cs[i]? = some c) (hb : ∀ f, c.on w f → b ∈ f) (o : Nat) (v : Value) : Scene F W (cs.set i lostC) (w.setCell ⟨b, o, none⟩ v) := by
  obtain ⟨f, h1, hk⟩ := h.part i hi
  exact hk _ f lostC (fun x hx => by have := c.lt h1 x hx; simpa using this) ((Mod.refl _ _).setCell (.inl (hb f h1)) v) (fun x hx => .inl hx)
end Stg
end Go
namespace Go.Proofs.Ytkkjlioigdpacaa
open Go Go.RowKit Go.Stg
theorem runL_small (fs : List Fld) (h : ∀ f ∈ fs, Small f) : ∀ k, k ≤ fs.length → 0 ≤ (runL (fs.take k)).1 ∧ (runL (fs.take k)).1 ≤ k * 17 ∧ 1 ≤ (runL (fs.take k)).2 ∧ (runL (fs.take k)).2 ≤ 8
  | 0, _ => by simp [runL]
  | k + 1, hk => by
    obtain ⟨h1, h2, h3, h4⟩ := runL_small fs h k (by omega)
    rw [take_snoc fs (show k < fs.length by omega), runL_snoc]
    obtain ⟨g1, g2, g3⟩ := small_good (h fs[k] (List.getElem_mem _))
    obtain ⟨_, _, _, _, g4⟩ := good_of g1
    generalize fs[k] = f at *
    generalize runL (fs.take k) = s at *
    have hu := upI_bounds (n := s.1) (k := ali f) (by omega)
    unfold stepL
    simp only
    omega
theorem made_err {len : Int} {fs : List Fld} (h : Made len fs) : errT len fs = 0 := by
  obtain ⟨hs, hl⟩ := h
  have hg : Good fs := fun f hf => (small_good (hs f hf)).1
  have hb : ¬ badT len fs := by
    unfold badT
    omega
  have hz : sizeT len fs ≤ 65536 := by
    unfold sizeT
    rcases hl with ⟨h0, h1, h2⟩ | ⟨h0, h1, h2⟩
    · rw [if_neg (by omega)]
      unfold sizeR
      have := runL_small fs hs fs.length (Nat.le_refl _)
      rw [List.take_length] at this
      have hu := upI_bounds (n := (runL fs).1) (k := (runL fs).2) (by omega)
      omega
    · rw [if_pos (by omega), hd_eq h2]
      have := small_good (hs fs[0] (List.getElem_mem _))
      have h3 : len * wid fs[0] ≤ 5 * 9 := Int.mul_le_mul h1 this.2.2 (by omega) (by omega)
      omega
  unfold errT
  rw [if_neg (by omega), if_neg (by omega), if_neg hb, if_neg (by omega), if_neg (by rw [firstErr_good hg]; simp), if_neg (by omega)]
theorem made_bounds {len : Int} {fs : List Fld} (h : Made len fs) : 0 ≤ len ∧ len ≤ 5 ∧ 1 ≤ fs.length ∧ fs.length ≤ 4 := by
  rcases h.2 with h | h <;> omega
end Go.Proofs.Ytkkjlioigdpacaa
