/- Generations: slots and the definition's slots side by side. -/
import Derived.Test.YtcdmapllligjhaaGenDN
import Derived.Test.YtcdmapllligjhaaScene
namespace Go.Proofs.Ytcdmapllligjhaa
open Go Go.RowKit Go.Stg

def genC (b pb : Nat) (sl : Value) (first : Int) (x : GS) : Comp :=
  ⟨fun w f => ∃ psv, GenAt w b first x.S x.F x.ret sl psv pb ∧ f = gfoot b pb sl psv, fun ⟨psv, h, e⟩ hm hT => ⟨psv, h.mod hm (e ▸ hT), e⟩, fun ⟨_, h, e⟩ x hx => h.foot_lt x (e ▸ hx)⟩
def rgenC (b : Nat) (gv lv : Value) (first : Int) (x : GS) : Comp :=
  ⟨fun w f => ∃ fv, RAt w b first x.S x.F x.ret gv lv fv ∧ f = rfoot b gv lv fv, fun ⟨fv, h, e⟩ hm hT => ⟨fv, h.mod hm (e ▸ hT), e⟩, fun ⟨_, h, e⟩ x hx => h.foot_lt x (e ▸ hx)⟩
theorem rfoot_grow {w : World} {b : Nat} {gv lv fv fv' : Value} (hf : ∀ y, fv'.ownBlock = some y → fv.ownBlock = some y ∨ w.heap.size ≤ y) : ∀ y ∈ rfoot b gv lv fv', y ∈ rfoot b gv lv fv ∨ w.heap.size ≤ y := fun y hy => by
  simp only [rfoot, List.mem_cons, List.mem_append, Option.mem_toList] at hy ⊢
  rcases hy with rfl | hy | hy | hy
  · simp
  · simp [hy]
  · simp [hy]
  · rcases hf y hy with h | h
    · exact .inl (.inr (.inr (.inr h)))
    · exact .inr h
theorem GenPost.takes {w : World} {b pb : Nat} {sl psv v : Value} {first : Int} {x : GS} {e : Ending} {w' : World} (h : GenPost v b first x.S x.F x.ret sl psv pb w e w') : Takes (genC b pb sl first x) v w (gfoot b pb sl psv) e w' :=
  let ⟨psv', he, hm, hg, hs⟩ := h; ⟨_, he, ⟨psv', hg, rfl⟩, hm, gfoot_grow hs⟩
theorem RPost.takes {w : World} {b : Nat} {gv lv fv v : Value} {first : Int} {x : GS} {e : Ending} {w' : World} (h : RPost v b first x.S x.F x.ret gv lv fv w e w') : Takes (rgenC b gv lv first x) v w (rfoot b gv lv fv) e w' :=
  let ⟨fv', he, hm, hg, hs⟩ := h; ⟨_, he, ⟨fv', hg, rfl⟩, hm, rfoot_grow hs⟩
section
variable {F : List Nat} {W w : World} {cs : List Comp} {n : Nat} {first : Int} {x : GS} (hI : GInv n first x) (i : Nat)
section
variable {b pb : Nat} {sl : Value} (h : Scene F W cs w) (hi : cs[i]? = some (genC b pb sl first x))
include hI h hi
theorem sc_issue (hf1 : 1 ≤ first) (hf2 : first ≤ 4294967295) (d : Int) (hd : 0 ≤ d) (hd2 : d ≤ 18446744073709551615) : Calls Try.prog 31 #[.pointer (some ⟨b, 0, none⟩), .int .u64 d] w fun e w' => e = .returned (issV first x d) ∧ Scene F W (cs.set i (genC b pb sl first (issG first x d))) w' :=
  h.call i hi fun f ⟨psv, hg, e⟩ => by subst e; exact (iss_post hg hI hf1 hf2 d hd hd2).mono fun _ _ hp => GenPost.takes hp
theorem sc_end (hn : n ≤ 4096) (k : Int) : Calls Try.prog 34 #[.pointer (some ⟨b, 0, none⟩), .int .i64 k] w fun e w' => e = .returned (.int .i64 (endV x k)) ∧ Scene F W (cs.set i (genC b pb sl first (endG x k))) w' :=
  h.call i hi fun f ⟨psv, hg, e⟩ => by subst e; exact (ends_post hg hI hn k).mono fun _ _ hp => GenPost.takes hp
end
section
variable {b : Nat} {gv lv : Value} (h : Scene F W cs w) (hi : cs[i]? = some (rgenC b gv lv first x))
include hI h hi
theorem sc_rissue (hn : n ≤ 4096) (hf1 : 1 ≤ first) (hf2 : first ≤ 4294967295) (d : Int) (hd : 0 ≤ d) (hd2 : d ≤ 18446744073709551615) : Calls Try.prog 55 #[.pointer (some ⟨b, 0, none⟩), .int .u64 d] w fun e w' => e = .returned (issV first x d) ∧ Scene F W (cs.set i (rgenC b gv lv first (issG first x d))) w' :=
  h.call i hi fun f ⟨fv, hg, e⟩ => by subst e; exact (riss_ok hg hI hn hf1 hf2 d hd hd2).mono fun _ _ hp => RPost.takes hp
theorem sc_rend (hn : n ≤ 4096) (k : Int) : Calls Try.prog 47 #[.pointer (some ⟨b, 0, none⟩), .int .i64 k] w fun e w' => e = .returned (.int .i64 (endV x k)) ∧ Scene F W (cs.set i (rgenC b gv lv first (endG x k))) w' :=
  h.call i hi fun f ⟨fv, hg, e⟩ => by subst e; exact (rend_ok hg hI hn k).mono fun _ _ hp => RPost.takes hp
end
end
theorem sc_gen {F : List Nat} {W w : World} {cs : List Comp} (i : Nat) {b pb : Nat} {sl : Value} {first : Int} {x : GS} (h : Scene F W cs w) (hi : cs[i]? = some (genC b pb sl first x)) : ∃ psv, GenAt w b first x.S x.F x.ret sl psv pb :=
  let ⟨_, ⟨psv, h1, _⟩, _⟩ := h.part i hi; ⟨psv, h1⟩
theorem sc_rgen {F : List Nat} {W w : World} {cs : List Comp} (i : Nat) {b : Nat} {gv lv : Value} {first : Int} {x : GS} (h : Scene F W cs w) (hi : cs[i]? = some (rgenC b gv lv first x)) : ∃ fv, RAt w b first x.S x.F x.ret gv lv fv :=
  let ⟨_, ⟨fv, h1, _⟩, _⟩ := h.part i hi; ⟨fv, h1⟩
def stepG (first : Int) (x : GS) (a d : Int) : GS := if a % 5 < 3 then issG first x d else endG x (d % 9 - 1)
theorem GInv.step {n : Nat} {first : Int} {x : GS} (h : GInv n first x) (hf1 : 1 ≤ first) (hf2 : first ≤ 4294967295) (a d : Int) : GInv n first (stepG first x a d) := by
  unfold stepG
  split
  · exact h.issue hf1 hf2 d
  · exact h.endd _
theorem issV_form (first : Int) (x : GS) (d : Int) : ∃ p q r : Int, issV first x d = .tuple #[.int .i64 p, .int .i64 q, .int .i64 r] := by
  unfold issV
  split <;> exact ⟨_, _, _, rfl⟩
end Go.Proofs.Ytcdmapllligjhaa
