/- Parts of the store that lie apart: what a step does to one part leaves the others as they were. -/
import Derived.Test.YtappkiiihnaegaaBase
namespace Go
namespace Stg

/-- A part of the store: what holds of a world, and the blocks that it takes. -/
structure Comp where
  on : World → List Nat → Prop
  keep : ∀ {w w' : World} {f T : List Nat}, on w f → Mod T w w' → (∀ x ∈ f, x ∉ T) → on w' f
  lt : ∀ {w : World} {f : List Nat}, on w f → ∀ x ∈ f, x < w.heap.size
/-- Parts that lie apart. -/
def Hold : List Comp → World → List Nat → Prop
  | [], _, fp => fp = []
  | c :: cs, w, fp => ∃ f g, c.on w f ∧ Hold cs w g ∧ (∀ x ∈ f, x ∉ g) ∧ fp = f ++ g
theorem Hold.keep : ∀ {cs : List Comp} {w w' : World} {fp T : List Nat}, Hold cs w fp → Mod T w w' → (∀ x ∈ fp, x ∉ T) → Hold cs w' fp
  | [], _, _, _, _, h, _, _ => h
  | _ :: _, _, _, _, _, ⟨f, g, h1, h2, h3, e⟩, hm, hT => by
    subst e
    exact ⟨f, g, Comp.keep _ h1 hm fun x hx => hT x (List.mem_append_left _ hx), Hold.keep h2 hm fun x hx => hT x (List.mem_append_right _ hx), h3, rfl⟩
theorem Hold.lt : ∀ {cs : List Comp} {w : World} {fp : List Nat}, Hold cs w fp → ∀ x ∈ fp, x < w.heap.size
  | [], _, _, h => by subst h; simp
  | _ :: _, _, _, ⟨f, g, h1, h2, _, e⟩ => by
    subst e
    intro x hx
    rcases List.mem_append.1 hx with hx | hx
    · exact Comp.lt _ h1 x hx
    · exact h2.lt x hx
/-- Several parts as one. -/
def Comp.all (cs : List Comp) : Comp := ⟨Hold cs, Hold.keep, Hold.lt⟩
theorem Hold.part : ∀ {cs : List Comp} {w : World} {fp : List Nat} (i : Nat) {c : Comp}, Hold cs w fp → cs[i]? = some c →
    ∃ f, c.on w f ∧ (∀ x ∈ f, x ∈ fp) ∧ ∀ w' f' c', Comp.on c' w' f' → Mod f w w' → (∀ x ∈ f', x ∈ f ∨ w.heap.size ≤ x) → ∃ fp', Hold (cs.set i c') w' fp' ∧ ∀ x ∈ fp', x ∈ fp ∨ w.heap.size ≤ x
  | [], _, _, _, _, _, hi => by simp at hi
  | c0 :: cs, w, fp, 0, c, ⟨f, g, h1, h2, h3, e⟩, hi => by
    obtain rfl : c0 = c := by simpa using hi
    subst e
    refine ⟨f, h1, fun x hx => List.mem_append_left _ hx, fun w' f' c' k1 k2 k3 => ⟨f' ++ g, ⟨f', g, k1, h2.keep k2 fun x hx hxf => h3 x hxf hx, fun x hx hxg => ?_, rfl⟩, fun x hx => ?_⟩⟩
    · rcases k3 x hx with h | h
      · exact h3 x h hxg
      · have := h2.lt x hxg; omega
    · rcases List.mem_append.1 hx with hx | hx
      · exact (k3 x hx).imp (List.mem_append_left _) id
      · exact .inl (List.mem_append_right _ hx)
  | c0 :: cs, w, fp, i + 1, c, ⟨f0, g, h1, h2, h3, e⟩, hi => by
    subst e
    obtain ⟨f, k1, k2, k3⟩ := Hold.part i h2 (by simpa using hi)
    refine ⟨f, k1, fun x hx => List.mem_append_right _ (k2 x hx), fun w' f' c' m1 m2 m3 => ?_⟩
    obtain ⟨g', n1, n2⟩ := k3 w' f' c' m1 m2 m3
    refine ⟨f0 ++ g', ⟨f0, g', Comp.keep _ h1 m2 fun x hx hxf => h3 x hx (k2 x hxf), n1, fun x hx hxg => ?_, rfl⟩, fun x hx => ?_⟩
    · rcases n2 x hxg with h | h
      · exact h3 x hx h
      · have := Comp.lt _ h1 x hx; omega
    · rcases List.mem_append.1 hx with hx | hx
      · exact .inl (List.mem_append_left _ hx)
      · exact (n2 x hx).imp (List.mem_append_right _) id
theorem Hold.erase : ∀ {cs : List Comp} {w : World} {fp : List Nat} (i : Nat), Hold cs w fp → ∃ fp', Hold (cs.eraseIdx i) w fp' ∧ ∀ x ∈ fp', x ∈ fp
  | [], _, _, _, h => ⟨[], rfl, by simp⟩
  | _ :: _, _, _, 0, ⟨f, g, h1, h2, h3, e⟩ => ⟨g, h2, fun x hx => by subst e; exact List.mem_append_right _ hx⟩
  | _ :: _, _, _, i + 1, ⟨f, g, h1, h2, h3, e⟩ => by
    subst e
    obtain ⟨g', k1, k2⟩ := Hold.erase i h2
    exact ⟨f ++ g', ⟨f, g', h1, k1, fun x hx hxg => h3 x hx (k2 x hxg), rfl⟩, fun x hx => by
      rcases List.mem_append.1 hx with hx | hx
      · exact List.mem_append_left _ hx
      · exact List.mem_append_right _ (k2 x hx)⟩

/-- A world that is W but for the blocks F and new ones, with these parts in it, which take no others. -/
def Scene (F : List Nat) (W : World) (cs : List Comp) (w : World) : Prop :=
  Mod F W w ∧ ∃ fp, Hold cs w fp ∧ ∀ x ∈ fp, x ∈ F ∨ W.heap.size ≤ x
section
variable {F : List Nat} {W w w' : World} {cs : List Comp}
theorem Scene.mod (h : Scene F W cs w) : Mod F W w := h.1
theorem Scene.start {fp : List Nat} (h : Hold cs w fp) : Scene fp w cs w := ⟨Mod.refl _ _, fp, h, fun _ hx => .inl hx⟩
theorem Scene.empty (W : World) : Scene [] W [] W := ⟨Mod.refl _ _, [], rfl, by simp⟩
theorem Scene.done (h : Scene F W cs w) : ∃ f', Hold cs w f' ∧ Mod F W w ∧ ∀ x ∈ f', x ∈ F ∨ W.heap.size ≤ x := let ⟨h1, f, h2, h3⟩ := h; ⟨f, h2, h1, h3⟩
/-- One part: what it is, and what a step of it does to the scene. -/
theorem Scene.part (i : Nat) {c : Comp} (h : Scene F W cs w) (hi : cs[i]? = some c) :
    ∃ f, c.on w f ∧ ∀ w' f' c', Comp.on c' w' f' → Mod f w w' → (∀ x ∈ f', x ∈ f ∨ w.heap.size ≤ x) → Scene F W (cs.set i c') w' := by
  obtain ⟨hm, fp, hh, hf⟩ := h
  obtain ⟨f, h1, h2, h3⟩ := Hold.part i hh hi
  refine ⟨f, h1, fun w' f' c' k1 k2 k3 => ?_⟩
  obtain ⟨fp', n1, n2⟩ := h3 w' f' c' k1 k2 k3
  refine ⟨hm.then k2 fun x hx => hf x (h2 x hx), fp', n1, fun x hx => ?_⟩
  rcases n2 x hx with h | h
  · exact hf x h
  · exact .inr (Nat.le_trans hm.size h)
theorem Scene.then (h : Scene F W cs w) (hm : Mod [] w w') : Scene F W cs w' :=
  let ⟨h1, fp, h2, h3⟩ := h; ⟨h1.nil_then hm, fp, h2.keep hm (by simp), h3⟩
theorem Scene.add {c : Comp} {f : List Nat} (h : Scene F W cs w) (hm : Mod [] w w') (hc : c.on w' f) (hf : ∀ x ∈ f, w.heap.size ≤ x) : Scene F W (c :: cs) w' := by
  obtain ⟨h1, fp, h2, h3⟩ := h
  refine ⟨h1.nil_then hm, f ++ fp, ⟨f, fp, hc, h2.keep hm (by simp), fun x hx hxp => ?_, rfl⟩, fun x hx => ?_⟩
  · have := hf x hx; have := h2.lt x hxp; omega
  · rcases List.mem_append.1 hx with hx | hx
    · exact .inr (Nat.le_trans h1.size (hf x hx))
    · exact h3 x hx
theorem Scene.erase (i : Nat) (h : Scene F W cs w) : Scene F W (cs.eraseIdx i) w := by
  obtain ⟨h1, fp, h2, h3⟩ := h
  obtain ⟨fp', k1, k2⟩ := h2.erase i
  exact ⟨h1, fp', k1, fun x hx => h3 x (k2 x hx)⟩
theorem Scene.swap {a b : Comp} (h : Scene F W (a :: b :: cs) w) : Scene F W (b :: a :: cs) w := by
  obtain ⟨h1, fp, ⟨f, _, ha, ⟨g, k, hb, hc, hgk, rfl⟩, hfg, rfl⟩, h3⟩ := h
  refine ⟨h1, g ++ (f ++ k), ⟨g, f ++ k, hb, ⟨f, k, ha, hc, fun x hx hxk => hfg x hx (List.mem_append_right _ hxk), rfl⟩, fun x hx hxf => ?_, rfl⟩, fun x hx => h3 x ?_⟩
  · rcases List.mem_append.1 hxf with h | h
    · exact hfg x h (List.mem_append_left _ hx)
    · exact hgk x hx h
  · simp only [List.mem_append] at hx ⊢
    rcases hx with h | h | h
    · exact .inr (.inl h)
    · exact .inl h
    · exact .inr (.inr h)
/-- The scene as a part of its own world's past. -/
theorem Scene.rebase (h : Scene F W cs w) : ∃ fp, Scene fp w cs w ∧ ∀ w' cs', Scene fp w cs' w' → Scene F W cs' w' := by
  obtain ⟨h1, fp, h2, h3⟩ := h
  refine ⟨fp, Scene.start h2, fun w' cs' ⟨k1, fp', k2, k3⟩ => ⟨h1.then k1 h3, fp', k2, fun x hx => ?_⟩⟩
  rcases k3 x hx with h | h
  · exact h3 x h
  · exact .inr (Nat.le_trans h1.size h)
end
/-- Behind a call that takes one part to another. -/
def Takes (c' : Comp) (v : Value) (w : World) (f : List Nat) (e : Ending) (w' : World) : Prop :=
  ∃ f', e = .returned v ∧ c'.on w' f' ∧ Mod f w w' ∧ ∀ x ∈ f', x ∈ f ∨ w.heap.size ≤ x
section
variable {P : Program} {fn : FuncId} {args : Array Value} {F : List Nat} {W w : World} {cs : List Comp}
theorem Scene.call (i : Nat) {c c' : Comp} {v : Value} (h : Scene F W cs w) (hi : cs[i]? = some c) (hc : ∀ f, c.on w f → Calls P fn args w (Takes c' v w f)) :
    Calls P fn args w fun e w' => e = .returned v ∧ Scene F W (cs.set i c') w' := by
  obtain ⟨f, h1, h2⟩ := h.part i hi
  refine (hc f h1).mono ?_
  rintro e w' ⟨f', he, k1, k2, k3⟩
  exact ⟨he, h2 w' f' c' k1 k2 k3⟩
theorem Scene.look (i : Nat) {c : Comp} {Q : Ending → World → Prop} (h : Scene F W cs w) (hi : cs[i]? = some c) (hc : ∀ f, c.on w f → Calls P fn args w fun e w' => Q e w' ∧ Mod [] w w') :
    Calls P fn args w fun e w' => Q e w' ∧ Scene F W cs w' := by
  obtain ⟨f, h1, h2⟩ := h.part i hi
  exact (hc f h1).mono fun e w' ⟨k1, k2⟩ => ⟨k1, h.then k2⟩
end
/-- A block that is known whole. -/
def blockC (b : Nat) (o : Obj) : Comp :=
  ⟨fun w f => w.heap[b]? = some o ∧ f = [b], fun h hm hT => ⟨hm.at h.1 (hT b (by rw [h.2]; simp)), h.2⟩, fun h x hx => by rw [h.2, List.mem_singleton] at hx; subst hx; exact lt_of h.1⟩
theorem blockC_at {b : Nat} {o : Obj} {w : World} {f : List Nat} (h : (blockC b o).on w f) : w.heap[b]? = some o := h.1
theorem Scene.alloc {F : List Nat} {W w : World} {cs : List Comp} (h : Scene F W cs w) (o : Obj) : Scene F W (blockC w.heap.size o :: cs) (w.alloc o) :=
  h.add (c := blockC w.heap.size o) ((Mod.refl [] w).alloc o) ⟨at_alloc w o, rfl⟩ (by simp)
theorem Scene.block {F : List Nat} {W w : World} {cs : List Comp} (i : Nat) {b : Nat} {o : Obj} (h : Scene F W cs w) (hi : cs[i]? = some (blockC b o)) : w.heap[b]? = some o :=
  let ⟨_, h1, _⟩ := h.part i hi; h1.1
/-! ### a drawn region in which a part of a scene is written: one block is as it was throughout -/
def BW (b : Nat) (o : Obj) : Type := { w : World // w.heap[b]? = some o }
instance BW.inst (b : Nat) (o : Obj) : Nonempty (BW b o) := ⟨⟨{ (default : World) with heap := Array.replicate (b + 1) o }, by simp⟩⟩
theorem BW.of {b : Nat} {o : Obj} {w : World} (h : w.heap[b]? = some o) : ∃ x : BW b o, w = x.1 := ⟨⟨w, h⟩, rfl⟩
theorem BW.cells {b : Nat} {cs : Array Value} {T : TypeId} {fr : Nat × Nat} : ∀ (x : BW b (.cells cs T fr)) o, x.1.cell? ⟨b, o, none⟩ = cs[o]? := fun x => cells_of x.2
theorem Scene.drew {F : List Nat} {W w : World} {cs : List Comp} (h : Scene F W cs w) : Scene F W cs w.drew := h.then (Mod.refl [] w).drew
theorem wp_region_scene {P : Program} {id : Nat} {Q : Exit → Act → World → Prop} {a : Act} {F : List Nat} {W w : World} {cs : List Comp} {l : List Oper} (b : Nat) (o : Obj) (h : Scene F W cs w) (hb : ∀ w', Scene F W cs w' → w'.heap[b]? = some o) (hm : P.follows .mixedOrders = true) (hB : stageB .any l.toArray = true)
    (h' : wpStage P l.toArray (fun w' => ∃ x : BW b o, w' = x.1) (LetsOut Q) (fun a' w' => Q .normal a' w') l (fun w' => Scene F W cs w') a) : (Code.region id l.toArray true).wp P Q a w :=
  wp_region_stage (fun w' => ∃ x : BW b o, w' = x.1) (fun w' => Scene F W cs w') hm hB (fun w' h => BW.of (hb w' h)) h.drew h'
end Stg
end Go
