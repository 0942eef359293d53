/- The rule for regions that draw their order, inside a round of a loop over an iterator. -/
import Derived.Test.YtkkjlioigdpacaaStage
import Derived.RangeFuncCalls
import Derived.RangeFuncNested
import Derived.OrdersIn
namespace Go
namespace Stg
section
variable {P : Program} {ops : Array Oper} {md : Region.Mode} {I : World → Prop} {fin : Nat} {n l0 : Nat}

def noDefer (o : Oper) : Bool := match o.op with
  | .defer _ => false
  | _ => true
theorem noDefer_spec {o : Oper} (h : noDefer o = true) : ∀ c, o.op ≠ .defer c := fun c e => by
  unfold noDefer at h
  rw [e] at h
  cases h
theorem wpOpIn_of_gives {Q' : Exit → Act → World → Prop} {o : Oper} {a : Act} {w : World} {R : Value → World → Prop} {K : Act → World → Prop} (hd : noDefer o = true)
    (h : gives P o a w (LetsOut Q') R) (hk : ∀ v w', R v w' → K (a.put o.dst v) w') : o.wpIn (Fence.wide.inRound l0) n P a w K Q' := by
  unfold gives at h
  refine ⟨fun _ _ => trivial, ?_⟩
  rw [Oper.semAt_eq _ _ _ (noDefer_spec hd)]
  generalize (execOp a.eval o).run P w = r at *
  cases r with
  | ok n w' =>
    cases n <;> simp only [] at h <;> simp only [Oper.uponIn]
    case value v => exact hk _ _ h
    case skip => exact hk _ _ h
    case enter f args =>
      refine ⟨fun hx => (by cases hx), (CallsIn.inRound l0 (callsIn_wide.2 h)).mono fun e w'' he => ?_⟩
      cases e with
      | returned v => exact hk _ _ he
      | panicked c => exact he.elim
      | outgrown => exact he
  | halt x w' => simp only [] at h
theorem wpOpIn_of_holds {Q' : Exit → Act → World → Prop} {o : Oper} {a : Act} {w : World} {v : Value} {K : Act → World → Prop} (hd : noDefer o = true)
    (h : holdsAt P o a w v) (hk : K (a.put o.dst v) w) : o.wpIn (Fence.wide.inRound l0) n P a w K Q' := by
  unfold holdsAt at h
  refine ⟨fun _ _ => trivial, ?_⟩
  rw [Oper.semAt_eq _ _ _ (noDefer_spec hd)]
  generalize (execOp a.eval o).run P w = r at *
  cases r with
  | ok n w' =>
    cases n <;> simp only [] at h <;> simp only [Oper.uponIn]
    case value u => obtain ⟨rfl, rfl⟩ := h; exact hk
    case skip => obtain ⟨rfl, rfl⟩ := h; exact hk
  | halt x w' => simp only [] at h
theorem wpAnyIn_of_T {Q : Act → World → Prop} {Q' : Exit → Act → World → Prop} (hQ : ∀ a w, Q a w → Q' .normal a w) (hfin : fin < ops.size → ∀ i, i < ops.size → i ≠ fin → forced md ops fin i) (hd : ∀ (i : Nat) (o : Oper), ops[i]? = some o → noDefer o = true) :
    ∀ (fuel : Nat) (listed : Array Bool) (C : World → Prop) (a : Act) (w : World), closed md ops listed → (Region.ready md ops listed = [] ∨ ∀ w, C w → I w) → C w →
      wpAnyT P md ops I fin (LetsOut Q') Q fuel listed C a → wpAnyIn (Fence.wide.inRound l0) n P md ops Q' fuel listed a w
  | 0, _, _, _, _, _, _, hw, h => ⟨h.1, hQ _ _ (h.2 _ hw)⟩
  | fuel + 1, listed, C, a, w, hcl, hCI0, hw, h => by
    refine ⟨fun h0 => hQ _ _ (h.1 h0 _ hw), fun i hi => ?_⟩
    have hCI : ∀ w, C w → I w := hCI0.resolve_left (fun h0 => by rw [h0] at hi; cases hi)
    have hcl' := hcl.set hi
    have h2 := h.2 i hi
    unfold tOp at h2
    unfold wpOpIn
    split
    · rename_i ho; simp only [ho] at h2; exact wpAnyIn_of_T hQ hfin hd fuel _ _ _ _ hcl' (.inr hCI) hw h2
    · rename_i o ho
      simp only [ho] at h2
      split
      · rename_i hwant
        simp only [hwant, if_true] at h2
        split at h2
        · obtain ⟨V, R, _, h3, h4, h5⟩ := h2
          refine wpOpIn_of_gives (hd i o ho) (h3 w hw) fun v w' hr => wpAnyIn_of_T hQ hfin hd fuel _ _ _ _ hcl' ?_ hr (h5 v (h4 v w' hr).1)
          by_cases hn : i = fin
          · subst hn; exact .inl (fin_last hfin hcl hi)
          · exact .inr fun w hr => (h4 v w hr).2.resolve_left hn
        · obtain ⟨v, h3, h4⟩ := h2
          exact wpOpIn_of_holds (hd i o ho) (h3 w (hCI w hw)) (wpAnyIn_of_T hQ hfin hd fuel _ _ _ _ hcl' (.inr hCI) hw h4)
      · rename_i hwant
        simp only [hwant, if_false, Bool.false_eq_true] at h2
        exact ⟨fun _ _ => trivial, wpAnyIn_of_T hQ hfin hd fuel _ _ _ _ hcl' (.inr hCI) hw h2⟩
theorem wpIn_region_stage {id : Nat} {Q : Exit → Act → World → Prop} {a : Act} {w : World} {l : List Oper} (I C : World → Prop) (hm : P.follows .mixedOrders = true) (hB : stageB .any l.toArray = true) (hd : l.all noDefer = true)
    (hCI : ∀ w, C w → I w) (hC : C w.drew) (h : wpStage P l.toArray I (LetsOut Q) (fun a' w' => Q .normal a' w') l C a) : (Code.region id l.toArray true).wpIn (Fence.wide.inRound l0) n P Q a w := by
  simp only [stageB, Bool.and_eq_true] at hB
  obtain ⟨hlex, hch⟩ := hB
  simp only [Region.lexB, Bool.and_eq_true] at hlex
  have hc0 : closed .any l.toArray (Array.replicate l.toArray.size false) := fun j oj _ hl => by rw [wp_region_stage.getD_replicate_false'] at hl; cases hl
  obtain ⟨fin, hfin, hfl⟩ : ∃ fin, (fin < l.toArray.size → ∀ i, i < l.toArray.size → i ≠ fin → forced .any l.toArray fin i) ∧ (lastWaits l.toArray = true → fin = l.toArray.size - 1) := by
    by_cases h : lastWaits l.toArray = true
    · exact ⟨_, fun _ => lastWaits_spec h, fun _ => rfl⟩
    · exact ⟨l.toArray.size, fun h' => absurd h' (Nat.lt_irrefl _), fun h' => absurd h' h⟩
  have hd' : ∀ (i : Nat) (o : Oper), l.toArray[i]? = some o → noDefer o = true := fun i o hi => by
    rw [List.all_eq_true] at hd
    refine hd o ?_
    rw [List.getElem?_toArray] at hi
    exact List.mem_of_getElem? hi
  refine wpIn_region_any hm (wpAnyIn_of_T (I := I) (fin := fin) (Q := fun a' w' => Q .normal a' w') (fun _ _ h => h) hfin hd' _ _ C _ _ hc0 (.inr hCI) hC ?_)
  have := wpAnyT_lex (P := P) (I := I) (md := .any) hfin hfl hlex.1 (chain_spec hch) _ (hCI _ hC) l 0 (Array.replicate l.toArray.size false) C a (by simp) (.inr hCI)
    hc0 (fun j hj => by omega) (by simpa using hlex.2) h
  simpa using this
end
end Stg
end Go
