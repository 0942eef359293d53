/- A loop over an iterator that says something of each element that it hands out (a slice that it made for it, say). -/
import Derived.Test.YtappkiiihnaegaaBase
import Derived.RangeFuncNested
import Derived.RangeFuncBound
import Derived.RangeFuncCalls
import Derived.RangeFuncLeaves
import Derived.RangeFuncBox
import Derived.Shelf.Abstract
import Derived.Shelf.RegionOpen
import Derived.WalkKit
import Derived.OwnWalkIn
import Derived.TacticsInMore
import Derived.LoopNIn
import Derived.LoopIn
import Derived.Maps.AppendAt
namespace Go
namespace Stg
open Go.RowKit
variable {P : Program} {F : Fence} {n : Nat}

/-- The contract of an iterator: El holds of each element where it is handed out. -/
def SeqSays {α : Type} (F : Fence) (n : Nat) (P : Program) (g : Nat) (lb : Array Value) (enc : α → Array Value) (El : List α → α → World → Prop) (Kp : World → World → Prop) (S Sp : List α → Prop) (N : Nat) (w : World) : Prop :=
  ∀ (l : Nat) (J Jx : List α → World → Prop) (W : World), Below w.heap.size w W → AbidesFrom W.heap.size J → AbidesFrom W.heap.size Jx → J [] W →
    (∀ pre x V, J pre V → El pre x V → pre.length < N → YieldAt F (n - 1) P l (enc x) V fun e V' =>
      (e = .returned (.bool true) ∧ J (pre ++ [x]) V' ∧ Kp V V') ∨ (e = .returned (.bool false) ∧ Jx (pre ++ [x]) V')) →
    CallsIn F n P g (#[.func (.yield l) #[] #[]] ++ lb) W fun e V => (∃ v, e = .returned v) ∧ ((∃ xs, S xs ∧ J xs V) ∨ (∃ pre, Sp pre ∧ Jx pre V))
/-- What the loop's two blocks hold. -/
def Rec (b : Nat) (r : Loop) (W : World) : Prop := W.heap[b + 1]? = some (.loop r) ∧ W.heap[b]? = some (.deferred (some []))
theorem Rec.keep {b : Nat} {r : Loop} {V W : World} (h : Rec b r V) (hk : KeepsFrom b V W) : Rec b r W := ⟨hk.same _ _ (Nat.le_succ b) h.1 rfl, hk.same _ _ (Nat.le_refl b) h.2 rfl⟩
theorem Rec.put {b : Nat} {r : Loop} {V : World} (h : Rec b r V) (r' : Loop) : Rec b r' (V.putObj (b + 1) (.loop r')) :=
  ⟨World.putObj_heap_same (lt_of h.1), (World.putObj_heap_other (by omega)).trans h.2⟩
theorem Rec.grown {b : Nat} {r : Loop} {V W : World} {row : Option Nat} (h : Rec b r V) (hg : V.grownBy W row) (hr : ∀ x, row = some x → ∃ o : Obj, V.heap[x]? = some o ∧ o.isWalk = true) : Rec b r W := by
  have no : ∀ x, row = some x → ∃ o : Obj, V.heap[x]? = some o ∧ o.isWalk = true := hr
  refine ⟨(hg.block _ (lt_of h.1) fun e => ?_).trans h.1, (hg.block _ (lt_of h.2) fun e => ?_).trans h.2⟩
  · obtain ⟨o, ho, hw⟩ := no _ e.symm
    rw [h.1] at ho; cases ho; simp [Obj.isWalk] at hw
  · obtain ⟨o, ho, hw⟩ := no _ e.symm
    rw [h.2] at ho; cases ho; simp [Obj.isWalk] at hw
theorem walk_from {B C : Nat} (hBC : B ≤ C) {V : World} {row : Option Nat} (h : ∀ r, row = some r → C ≤ r ∧ ∃ o : Obj, V.heap[r]? = some o ∧ o.isWalk = true) : ∀ r, row = some r → B ≤ r ∧ ∃ o : Obj, V.heap[r]? = some o ∧ o.isCells = false :=
  fun r e => let ⟨h1, o, h2, h3⟩ := h r e; ⟨Nat.le_trans hBC h1, o, h2, Obj.not_cells_of_walk h3⟩
theorem wpIn_rangeFunc_says {α : Type} {g : Operand} {ps : Array Tmp} {assign body : Code} {Q : Exit → Act → World → Prop} {a : Act} {w : World}
    (hro : F.round = none) (hn : 1 ≤ n) {gf : Nat} {lb : Array Value} (hg : a.eval g = .func (.func gf) #[] lb) (hF : F.fn gf) (he : ∀ args w, (callFunc gf args).run P w = .ok (.enter gf args) w)
    {enc : α → Array Value} {El : List α → α → World → Prop} {Kp : World → World → Prop} {S Sp : List α → Prop} {N : Nat} {w0 : World} (hseq : SeqSays F (n - 1) P gf lb enc El Kp S Sp N w0) (hb0 : Below w0.heap.size w0 w) (hps : ∀ x, (enc x).size = ps.size)
    (hKt : ∀ {A B C : World}, Kp A B → Kp B C → Kp A C) (hKb : ∀ (W : World) (l : Nat) (o o' : Obj), w.heap.size ≤ l → W.heap[l]? = some o → o.isCells = false → o.isWalk = false → Kp W (W.putObj l o'))
    (I : List α → World → Prop) (Ix : Code → List α → World → Prop) (hI : OwnFrom w.heap.size I) (hIx : ∀ c, OwnFrom w.heap.size (Ix c)) (h0 : I [] w) (Ax : List α → α → Act → World → Prop) (hAx : ∀ pre x a', OwnFrom w.heap.size (fun (_ : Unit) W => Ax pre x a' W))
    (hassign : ∀ (l : Nat) (pre : List α) (x : α) (W : World) (K : Act → World → Prop), I pre W → El pre x W → (∀ a' W', KeepsFrom w.heap.size W W' → Kp W W' → I pre W' → Ax pre x a' W' → K a' W') →
      assign.wpIn (F.inRound l) (n - 1 - 1) P (Exit.then K (fun _ _ _ => False)) { tmps := (ps.zip (enc x)).foldl (fun t (p, v) => t.setIfInBounds p v) a.tmps, defers := [] } W)
    (hbody : ∀ (l : Nat) (pre : List α) (x : α) (a' : Act) (W : World), I pre W → Ax pre x a' W → pre.length < N → body.wpIn (F.inRound l) (n - 1 - 1) P (ownPostG w.heap.size Kp I Ix (pre ++ [x]) W) a' W)
    (hdone : ∀ (D : Nat) (xs : List α) (W : World), w.heap.size ≤ D → S xs → I xs W → W.heap[D]? = some (.deferred (some [])) → Q .normal { a with defers := { target := .collected D, args := #[] } :: a.defers } W)
    (hstop : ∀ (D : Nat) (c : Code) (pre : List α) (W : World), w.heap.size ≤ D → Sp pre → Ix c pre W → W.heap[D]? = some (.deferred (some [])) → c.wpIn F n P Q { a with defers := { target := .collected D, args := #[] } :: a.defers } W) :
    (Code.rangeFunc g ps assign body).wpIn F n P Q a w := by
  refine wpIn_rangeFunc fun fn hfn => ?_
  obtain ⟨R, hR⟩ : ∃ R : LoopState → Option Code → Loop, R = fun s c => { state := s, pending := c, fn, tmps := a.tmps, params := ps, assign, body, defers := w.heap.size } := ⟨_, rfl⟩
  have st : ∀ s c, (R s c).state = s := fun s c => by rw [hR]
  have busy : ∀ s c s', { R s c with state := s' } = R s' c := fun s c s' => by rw [hR]
  have ended : ∀ s c s' c', { R s c with state := s', pending := c' } = R s' c' := fun s c s' c' => by rw [hR]
  have e0 : (Instr.enterLoop fn a.tmps ps assign body F.round).run P w = .ok (w.heap.size + 1, [{ target := .collected w.heap.size, args := #[] }]) ((w.alloc (.deferred (some []))).alloc (.loop (R .ready none))) := by
    rw [hro, hR]; exact run_enterLoop_outer _ _ _ _ _
  have r0 : Rec w.heap.size (R .ready none) ((w.alloc (.deferred (some []))).alloc (.loop (R .ready none))) := by
    have q := at_alloc (w.alloc (.deferred (some []))) (.loop (R .ready none))
    rw [World.size_alloc] at q
    exact ⟨q, at_alloc_old (at_alloc w _)⟩
  have s0 : w.heap.size ≤ ((w.alloc (.deferred (some []))).alloc (.loop (R .ready none))).heap.size := by simp only [World.size_alloc]; omega
  have i0 : I [] ((w.alloc (.deferred (some []))).alloc (.loop (R .ready none))) := hI.alloc _ (hI.alloc _ h0)
  have b0 : Below w0.heap.size w0 ((w.alloc (.deferred (some []))).alloc (.loop (R .ready none))) := hb0.trans ((((Below.refl _ w).alloc (Nat.le_refl _) _).alloc (by simp) _).mono hb0.size)
  generalize (w.alloc (.deferred (some []))).alloc (.loop (R .ready none)) = W1 at *
  refine ⟨_, _, W1, { target := .fn (.func gf) lb, args := #[.func (.yield (w.heap.size + 1)) #[] #[]] }, W1, gf, #[.func (.yield (w.heap.size + 1)) #[] #[]] ++ lb, W1, e0, by simp only [resolve, hg]; simp [go_sem], fun f' hf' => by simp [Target.leads] at hf'; subst hf'; exact hF, by simp [invoke, go_sem, he], fun _ => hn, ?_⟩
  refine (hseq (w.heap.size + 1) (fun pre W => I pre W ∧ Rec w.heap.size (R .ready none) W) (fun pre W => ∃ c, Ix c pre W ∧ Rec w.heap.size (R .done (some c)) W) W1 b0
    (fun s A B row h1 h2 h3 => ⟨hI s A B row h1.1 h2 (walk_from s0 h3), h1.2.grown h2 fun x e => (h3 x e).2⟩)
    (fun s A B row ⟨c, h1, h4⟩ h2 h3 => ⟨c, hIx c s A B row h1 h2 (walk_from s0 h3), h4.grown h2 fun x e => (h3 x e).2⟩) ⟨i0, r0⟩ ?_).mono ?_
  · rintro pre x W ⟨hi, hrec⟩ hel hlen
    have hy := run_yield (P := P) (args := enc x) hrec.1 (by rw [hR]; exact hps x)
    rw [hR] at hy
    refine ⟨fn, _, assign, body, hy, roundIn_of_wpIn hfn (hassign _ pre x W _ hi hel fun a' Wa hk1 hp1 hi1 hax => ?_)⟩
    have hra := hrec.keep hk1
    have hrb := hra.put (R .busy none)
    have hbeg := run_beginRound (P := P) hra.1 (st _ _)
    rw [busy] at hbeg
    have hpb := hKb Wa _ _ (.loop (R .busy none)) (Nat.le_succ w.heap.size) hra.1 rfl rfl
    have hib := hI.putObj (.loop (R .busy none)) hi1 (Nat.le_succ w.heap.size) hra.1 rfl
    have hab := (hAx pre x a').putObj (s := ()) (.loop (R .busy none)) hax (Nat.le_succ w.heap.size) hra.1 rfl
    refine ⟨_, hbeg, wpIn_mono (hbody _ pre x a' _ hib hab hlen) ?_⟩
    have fin : ∀ (c : Option Code) (W3 : World), KeepsFrom w.heap.size (Wa.putObj (w.heap.size + 1) (.loop (R .busy none))) W3 →
        Rec w.heap.size (R .busy none) W3 ∧ (Instr.endRound (w.heap.size + 1) c).run P W3 = .ok (.bool c.isNone) (W3.putObj (w.heap.size + 1) (.loop (R (if c.isNone then .ready else .done) c))) := fun c W3 hk3 => by
      have h3 := hrb.keep hk3
      have h4 := run_endRound (P := P) c h3.1
      rw [ended] at h4
      exact ⟨h3, h4⟩
    have out : ∀ (c : Code) (W3 : World), KeepsFrom w.heap.size (Wa.putObj (w.heap.size + 1) (.loop (R .busy none))) W3 → Ix c (pre ++ [x]) W3 → ∃ v w', (Instr.endRound (w.heap.size + 1) (some c)).run P W3 = .ok v w' ∧
        ((Ending.returned v = .returned (.bool true) ∧ (I (pre ++ [x]) w' ∧ Rec w.heap.size (R .ready none) w') ∧ Kp W w') ∨ (Ending.returned v = .returned (.bool false) ∧ ∃ c', Ix c' (pre ++ [x]) w' ∧ Rec w.heap.size (R .done (some c')) w')) := fun c W3 hk3 hx3 => by
      obtain ⟨h3, h4⟩ := fin (some c) W3 hk3
      exact ⟨_, _, h4, .inr ⟨rfl, c, (hIx c).putObj _ hx3 (Nat.le_succ _) h3.1 rfl, h3.put _⟩⟩
    rintro e a3 W3 hp
    cases e with
    | normal =>
      obtain ⟨hk3, hp3, hi3⟩ := hp
      obtain ⟨h3, h4⟩ := fin none W3 hk3
      exact ⟨_, _, h4, .inl ⟨rfl, ⟨hI.putObj _ hi3 (Nat.le_succ _) h3.1 rfl, h3.put _⟩, hKt hp1 (hKt (hKt hpb hp3) (hKb _ _ _ _ (Nat.le_succ _) h3.1 rfl rfl))⟩⟩
    | ret => exact out .ret W3 hp.1 hp.2
    | exit id => exact out (.exit id) W3 hp.1 hp.2
    | goto t => exact out (.goto t) W3 hp.1 hp.2
    | panic _ => exact hp.elim
    | outgrown => exact hp.elim
  · rintro e W2 ⟨⟨v, rfl⟩, h⟩
    have off : ∀ {s c}, s ≠ .busy → Rec w.heap.size (R s c) W2 → (Instr.endLoop (w.heap.size + 1)).run P W2 = .ok c (W2.putObj (w.heap.size + 1) (.loop (R .exhausted c))) := fun {s c} hs hr => by
      have := run_endLoop (P := P) hr.1 (by rw [st]; exact hs)
      rw [busy] at this
      rw [this, hR]
    rcases h with ⟨xs, hS, hi, hr⟩ | ⟨pre, hS, c, hi, hr⟩
    · exact ⟨none, _, off (by simp) hr, hdone _ xs _ (Nat.le_refl _) hS (hI.putObj _ hi (Nat.le_succ _) hr.1 rfl) (hr.put _).2⟩
    · exact ⟨some c, _, off (by simp) hr, hstop _ c pre _ (Nat.le_refl _) hS ((hIx c).putObj _ hi (Nat.le_succ _) hr.1 rfl) (hr.put _).2⟩
/-- The same, where what the assignments leave is told by slots (fr: the frame, of the old one, the element, the number of a block that was laid) and by what lies there. -/
theorem wpIn_rangeFunc_at {α : Type} {g : Operand} {ps : Array Tmp} {assign body : Code} {Q : Exit → Act → World → Prop} {a : Act} {w : World}
    (hro : F.round = none) (hn : 1 ≤ n) {gf : Nat} {lb : Array Value} (hg : a.eval g = .func (.func gf) #[] lb) (hF : F.fn gf) (he : ∀ args w, (callFunc gf args).run P w = .ok (.enter gf args) w)
    {enc : α → Array Value} {El : List α → α → World → Prop} {Kp : World → World → Prop} {S Sp : List α → Prop} {N : Nat} {w0 : World} (hseq : SeqSays F (n - 1) P gf lb enc El Kp S Sp N w0) (hb0 : Below w0.heap.size w0 w) (hps : ∀ x, (enc x).size = ps.size)
    (hKt : ∀ {A B C : World}, Kp A B → Kp B C → Kp A C) (hKb : ∀ (W : World) (l : Nat) (o o' : Obj), w.heap.size ≤ l → W.heap[l]? = some o → o.isCells = false → o.isWalk = false → Kp W (W.putObj l o'))
    (I : List α → World → Prop) (Ix : Code → List α → World → Prop) (hI : OwnFrom w.heap.size I) (hIx : ∀ c, OwnFrom w.heap.size (Ix c)) (h0 : I [] w)
    (fr : Array Value → α → Nat → Array Value) (Px : List α → α → Nat → World → Prop) (hPx : ∀ pre x r, OwnFrom w.heap.size (fun (_ : Unit) W => Px pre x r W))
    (hassign : ∀ (l : Nat) (pre : List α) (x : α) (W : World) (K : Act → World → Prop), I pre W → El pre x W → (∀ r W', KeepsFrom w.heap.size W W' → Kp W W' → I pre W' → Px pre x r W' → K { tmps := fr a.tmps x r, defers := [] } W') →
      assign.wpIn (F.inRound l) (n - 1 - 1) P (Exit.then K (fun _ _ _ => False)) { tmps := (ps.zip (enc x)).foldl (fun t (p, v) => t.setIfInBounds p v) a.tmps, defers := [] } W)
    (hbody : ∀ (l : Nat) (pre : List α) (x : α) (r : Nat) (W : World), I pre W → Px pre x r W → pre.length < N → body.wpIn (F.inRound l) (n - 1 - 1) P (ownPostG w.heap.size Kp I Ix (pre ++ [x]) W) { tmps := fr a.tmps x r, defers := [] } W)
    (hdone : ∀ (D : Nat) (xs : List α) (W : World), w.heap.size ≤ D → S xs → I xs W → W.heap[D]? = some (.deferred (some [])) → Q .normal { a with defers := { target := .collected D, args := #[] } :: a.defers } W)
    (hstop : ∀ (D : Nat) (c : Code) (pre : List α) (W : World), w.heap.size ≤ D → Sp pre → Ix c pre W → W.heap[D]? = some (.deferred (some [])) → c.wpIn F n P Q { a with defers := { target := .collected D, args := #[] } :: a.defers } W) :
    (Code.rangeFunc g ps assign body).wpIn F n P Q a w :=
  wpIn_rangeFunc_says hro hn hg hF he hseq hb0 hps hKt hKb I Ix hI hIx h0 (fun pre x a' W => ∃ r, a' = { tmps := fr a.tmps x r, defers := [] } ∧ Px pre x r W)
    (fun pre x _ s A B row ⟨r, h1, h2⟩ hg hr => ⟨r, h1, hPx pre x r s A B row h2 hg hr⟩)
    (fun l pre x W K h1 h2 hK => hassign l pre x W K h1 h2 fun r W' k1 k2 k3 k4 => hK _ _ k1 k2 k3 ⟨r, rfl, k4⟩)
    (fun l pre x _ W h1 ⟨r, h2, h3⟩ h4 => h2 ▸ hbody l pre x r W h1 h3 h4) hdone hstop
end Stg
end Go
