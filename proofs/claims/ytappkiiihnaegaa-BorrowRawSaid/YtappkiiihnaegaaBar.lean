/- A drawn region with a place in its text behind which no operation comes up before all those ahead of it: it is walked in two parts. -/
import Derived.Test.YtappkiiihnaegaaBase
namespace Go
namespace Stg
section
variable {P : Program} {md : Region.Mode} {l : List Oper} {p : Nat}

def barFrom (md : Region.Mode) (ms : List Nat) (l : List Oper) (p : Nat) : Bool :=
  decide (p ≤ l.length) && ((List.range' p (l.length - p)).all fun j => (List.range p).all fun i => (ms.getD j 0).testBit i) &&
  ((l.take p).zipIdx.all fun x => (x.1.after.all fun e => !Region.binds md e || decide (e.on < x.2)) && (match x.1.guard with | none => true | some g => decide (g.1 < x.2)))
/-- Behind p nothing comes up before all ahead of it. -/
structure Bar (md : Region.Mode) (l : List Oper) (p : Nat) : Prop where
  le : p ≤ l.length
  wait : ∀ j, p ≤ j → j < l.length → ∀ i, i < p → forced md l.toArray j i
  back : ∀ j o, j < p → l[j]? = some o → ∀ e ∈ o.after, Region.binds md e = true → e.on < j
  guard : ∀ j o, j < p → l[j]? = some o → ∀ g b, o.guard = some (g, b) → g < j
theorem Bar.of (h : barFrom md (masks md l []) l p = true) : Bar md l p := by
  unfold barFrom at h
  simp only [Bool.and_eq_true, decide_eq_true_eq, List.all_eq_true] at h
  obtain ⟨⟨h0, h1⟩, h2⟩ := h
  have key : ∀ j o, j < p → l[j]? = some o → (o, j) ∈ (l.take p).zipIdx := fun j o hj ho => by
    rw [List.mem_zipIdx_iff_getElem?]; simp [hj, ho]
  refine ⟨h0, fun j hj hl i hi => ?_, fun j o hj ho e he hb => ?_, fun j o hj ho g b hg => ?_⟩
  · refine masks_spec (ops := l.toArray) l [] (fun j => by simp) (fun j i hj => by simp at hj) j i ?_
    exact h1 j (by rw [List.mem_range']; exact ⟨j - p, by omega, by omega⟩) i (List.mem_range.2 hi)
  · have := (h2 _ (key j o hj ho)).1
    rw [Array.all_eq_true_iff_forall_mem] at this
    have := this e he
    simpa [hb] using this
  · have := (h2 _ (key j o hj ho)).2
    rw [hg] at this
    simpa using this

theorem wpAny_fuel {ops : Array Oper} {Q : Exit → Act → World → Prop} : ∀ (f k : Nat) (listed : Array Bool) (a : Act) (w : World), wpAny P md ops Q f listed a w → wpAny P md ops Q (f + k) listed a w
  | 0, 0, _, _, _, h => h
  | 0, k + 1, listed, a, w, h => by
    rw [show 0 + (k + 1) = k + 1 by omega]
    exact ⟨fun _ => h.2, fun i hi => by rw [h.1] at hi; cases hi⟩
  | f + 1, k, listed, a, w, h => by
    rw [show f + 1 + k = (f + k) + 1 by omega]
    exact ⟨h.1, fun i hi => wpOp_mono (fun a w h => wpAny_fuel f k _ a w h) (h.2 i hi)⟩

theorem wpOp_carry {ops ops' : Array Oper} {Q Q' : Exit → Act → World → Prop} {K K' : Act → World → Prop} {i : Nat} {a : Act} {w : World} (ho : ops'[i]? = ops[i]?) (hw : ∀ o, ops[i]? = some o → Region.wanted o (yielded ops' a.tmps) = Region.wanted o (yielded ops a.tmps))
    (hK : ∀ a w, K a w → K' a w) (hp : ∀ c a w, Q (.panic c) a w → Q' (.panic c) a w) (hl : LetsOut Q → LetsOut Q') (h : wpOp P ops Q i K a w) : wpOp P ops' Q' i K' a w := by
  unfold wpOp at *
  rw [ho]
  split
  · rename_i h0; simp only [h0] at h; exact hK _ _ h
  · rename_i o h0
    simp only [h0] at h
    rw [hw o h0]
    split
    · rename_i hwt
      simp only [hwt, if_true] at h
      refine h.imp (fun h => ?_) (fun h => ⟨h.1, hl h.2⟩)
      unfold Oper.wp at *
      generalize (execOp a.eval o).run P w = r at *
      cases r with
      | ok n w' =>
        cases n <;> simp only [Oper.upon] at h ⊢ <;>
          first
            | exact hK _ _ h
            | exact Calls.mono h (fun e w'' he => by cases e <;> first | exact hK _ _ he | exact hp _ _ _ he | exact hl he)
            | exact Rows.mono h (fun _ _ he => hK _ _ he)
      | halt x w' => cases x <;> simp only [Oper.upon] at h ⊢ <;> first | exact hp _ _ _ h | exact h
    · rename_i hwt
      simp only [hwt, if_false, Bool.false_eq_true] at h
      exact hK _ _ h

theorem getD_both (L : Array Bool) (n j : Nat) : (L ++ Array.replicate n false).getD j false = L.getD j false := by
  rw [Array.getD_eq_getD_getElem?, Array.getD_eq_getD_getElem?, Array.getElem?_append]
  split
  · rfl
  · rename_i h
    rw [Array.getElem?_eq_none (Nat.le_of_not_lt h)]
    by_cases h2 : j - L.size < n
    · simp [h2]
    · simp [h2]
theorem set_both (L : Array Bool) (n j : Nat) (h : j < L.size) : (L ++ Array.replicate n false).setIfInBounds j true = L.setIfInBounds j true ++ Array.replicate n false := by
  apply Array.ext_getElem?
  intro k
  rw [Array.getElem?_setIfInBounds, Array.getElem?_append, Array.getElem?_append, Array.getElem?_setIfInBounds]
  simp only [Array.size_append, Array.size_setIfInBounds]
  by_cases hk : j = k
  · subst hk; simp [h]; omega
  · simp [hk]
theorem all_listed {L : Array Bool} {n : Nat} (hs : L.size = n) (h : ∀ i, i < n → L.getD i false = true) : L = Array.replicate n true := by
  apply Array.ext
  · simp [hs]
  · intro i h1 h2
    have := h i (by omega)
    simpa [h1] using this

/-- The marks behind the first part. -/
def marked (n p : Nat) : Array Bool := Array.replicate p true ++ Array.replicate (n - p) false

theorem wpAny_bar {Q : Exit → Act → World → Prop} {Q1 : Exit → Act → World → Prop} {f2 : Nat} (hb : Bar md l p)
    (hp : ∀ c a w, Q1 (.panic c) a w → Q (.panic c) a w) (hl : LetsOut Q1 → LetsOut Q) (hn : ∀ a w, Q1 .normal a w → wpAny P md l.toArray Q f2 (marked l.length p) a w) :
    ∀ (f : Nat) (L : Array Bool) (a : Act) (w : World), L.size = p → closed md (l.take p).toArray L → wpAny P md (l.take p).toArray Q1 f L a w →
      wpAny P md l.toArray Q (f + f2) (L ++ Array.replicate (l.length - p) false) a w := by
  have hle := hb.le
  have at_ : ∀ j, j < p → (l.take p).toArray[j]? = l.toArray[j]? := fun j hj => by simp [hj]
  have cl : ∀ L : Array Bool, L.size = p → closed md (l.take p).toArray L → closed md l.toArray (L ++ Array.replicate (l.length - p) false) := by
    intro L hs hc j oj hj hL e he hbd
    rw [getD_both] at hL ⊢
    have hjp : j < p := by
      rcases Nat.lt_or_ge j p with h | h
      · exact h
      · simp [Array.getElem?_eq_none (show L.size ≤ j by omega)] at hL
    exact hc j oj (by rw [at_ j hjp]; exact hj) hL e he hbd
  have full : ∀ L : Array Bool, L.size = p → (∀ i, i < p → L.getD i false = true) → L ++ Array.replicate (l.length - p) false = marked l.length p := fun L hs h => by
    rw [all_listed hs h]; rfl
  have nolock : ∀ L : Array Bool, L.size = p → Region.ready md (l.take p).toArray L = [] → ∀ i, i < p → L.getD i false = true := by
    intro L hs hr i
    induction i using Nat.strongRecOn with
    | ind i ih =>
      intro hi
      cases hLi : L.getD i false with
      | true => rfl
      | false =>
        exfalso
        have : i ∈ Region.ready md (l.take p).toArray L := by
          rw [mem_ready]
          have hil : i < l.length := by omega
          refine ⟨?_, l[i], ?_, fun e he hbd => ?_⟩
          · have : i < L.size := by omega
            simp [this] at hLi ⊢; exact hLi
          · rw [at_ i hi]; simp [hil]
          · have := hb.back i l[i] hi (by simp [hil]) e he hbd
            exact ih e.on this (by omega)
        rw [hr] at this
        cases this
  have early : ∀ L : Array Bool, L.size = p → closed md (l.take p).toArray L → ∀ j, j ∈ Region.ready md l.toArray (L ++ Array.replicate (l.length - p) false) → (∃ i, i < p ∧ L.getD i false = false) → j < p ∧ j ∈ Region.ready md (l.take p).toArray L := by
    intro L hs hc j hj hex
    obtain ⟨hun, oj, hoj, hall⟩ := mem_ready.1 hj
    have hjp : j < p := by
      rcases Nat.lt_or_ge j p with h | h
      · exact h
      · exfalso
        obtain ⟨i, hi, hLi⟩ := hex
        have hjl : j < l.length := by have := (Array.getElem?_eq_some_iff.1 hoj).1; simpa using this
        have := hb.wait j h hjl i hi _ (cl L hs hc) (fun o ho e he hbd => by
          have : o = oj := Option.some.inj (ho.symm.trans hoj)
          subst this
          exact hall e he hbd)
        rw [getD_both, hLi] at this
        cases this
    refine ⟨hjp, mem_ready.2 ⟨?_, oj, by rw [at_ j hjp]; exact hoj, fun e he hbd => ?_⟩⟩
    · have h1 : j < L.size := by omega
      have h2 : j < L.size + (l.length - p) := by omega
      simp [h1, h2] at hun ⊢
      exact hun
    · have := hall e he hbd
      rwa [getD_both] at this
  intro f
  induction f with
  | zero =>
    intro L a w hs hc h
    rw [full L hs (nolock L hs h.1), Nat.zero_add]
    exact hn _ _ h.2
  | succ f ih =>
    intro L a w hs hc h
    by_cases hfull : ∀ i, i < p → L.getD i false = true
    · have hr : Region.ready md (l.take p).toArray L = [] := by
        apply List.eq_nil_iff_forall_not_mem.2
        intro j hj
        obtain ⟨hun, oj, hoj, _⟩ := mem_ready.1 hj
        have hjp : j < p := by
          have := (Array.getElem?_eq_some_iff.1 hoj).1
          simp at this; omega
        have h1 : j < L.size := by omega
        have := hfull j hjp
        simp [h1] at this hun
        rw [this] at hun
        cases hun
      rw [full L hs hfull, show f + 1 + f2 = f2 + (f + 1) by omega]
      exact wpAny_fuel _ _ _ _ _ (hn _ _ (h.1 hr))
    · have hex : ∃ i, i < p ∧ L.getD i false = false := by
        apply Classical.byContradiction
        intro hno
        apply hfull
        intro i hi
        cases hLi : L.getD i false with
        | true => rfl
        | false => exact absurd ⟨i, hi, hLi⟩ hno
      rw [show f + 1 + f2 = (f + f2) + 1 by omega]
      refine ⟨fun h0 => ?_, fun i hi => ?_⟩
      · exfalso
        obtain ⟨i, hi, hLi⟩ := hex
        have hne : Region.ready md (l.take p).toArray L ≠ [] := fun h1 => by
          have := nolock L hs h1 i hi
          rw [hLi] at this; cases this
        obtain ⟨j, hj⟩ := List.exists_mem_of_ne_nil _ hne
        obtain ⟨hun, oj, hoj, hall⟩ := mem_ready.1 hj
        have hjp : j < p := by
          have := (Array.getElem?_eq_some_iff.1 hoj).1
          simp at this; omega
        have h1 : j < L.size := by omega
        have : j ∈ Region.ready md l.toArray (L ++ Array.replicate (l.length - p) false) := mem_ready.2 ⟨by
          have h2 : j < L.size + (l.length - p) := by omega
          simp [h1, h2] at hun ⊢
          exact hun, oj, by rw [← at_ j hjp]; exact hoj, fun e he hbd => by rw [getD_both]; exact hall e he hbd⟩
        rw [h0] at this
        cases this
      · obtain ⟨hip, hi'⟩ := early L hs hc i hi hex
        have h2 := h.2 i hi'
        rw [set_both _ _ _ (by omega)]
        refine wpOp_carry (at_ i hip).symm (fun o ho => ?_) (fun a w hh => ih (L.setIfInBounds i true) a w (by simpa using hs) (hc.set hi') hh) hp hl h2
        unfold Region.wanted
        cases hg : o.guard with
        | none => rfl
        | some g =>
          obtain ⟨g, b⟩ := g
          have hgi := hb.guard i o hip (by have := ho; rw [at_ i hip] at this; simpa using this) g b hg
          have : yielded l.toArray a.tmps g = yielded (l.take p).toArray a.tmps g := by
            unfold yielded
            rw [at_ g (by omega)]
          simp only [this]

/-- THE RULE: the first part with its class, then the rest with another one. -/
theorem wp_region_bar (p : Nat) {id : Nat} {Q : Exit → Act → World → Prop} {a : Act} {w : World} {l : List Oper} (I C : World → Prop) (hm : P.follows .mixedOrders = true) (hB : stageB .any l.toArray = true) (hB1 : stageB .any (l.take p).toArray = true)
    (hbar : barFrom .any (masks .any l []) l p = true) (hlex : Region.lexFrom .any l.toArray (l.length - p) p (marked l.length p) = true)
    (hCI : ∀ w, C w → I w) (hC : C w.drew)
    (h : wpStage P (l.take p).toArray I (LetsOut Q) (fun a' w' => ∃ I2 C2 : World → Prop, C2 w' ∧ (∀ w, C2 w → I2 w) ∧ wpStage P l.toArray I2 (LetsOut Q) (fun a' w' => Q .normal a' w') (l.drop p) C2 a') (l.take p) C a) : (Code.region id l.toArray true).wp P Q a w := by
  have hb := Bar.of hbar
  have hle := hb.le
  simp only [stageB, Bool.and_eq_true] at hB hB1
  obtain ⟨hB, hch⟩ := hB
  obtain ⟨hlex1, hch1⟩ := hB1
  simp only [Region.lexB, Bool.and_eq_true] at hB hlex1
  have fins : ∀ ops : Array Oper, ∃ fin, (fin < ops.size → ∀ i, i < ops.size → i ≠ fin → forced .any ops fin i) ∧ (lastWaits ops = true → fin = ops.size - 1) := by
    intro ops
    by_cases h : lastWaits ops = true
    · exact ⟨_, fun _ => lastWaits_spec h, fun _ => rfl⟩
    · exact ⟨ops.size, fun h' => absurd h' (Nat.lt_irrefl _), fun h' => absurd h' h⟩
  have rep : ∀ m j, (Array.replicate m false).getD j false = false := fun m j => by
    rcases Nat.lt_or_ge j m with h | h
    · simp [h]
    · simp [h]
  refine wp_region_any hm ?_
  let Q1 : Exit → Act → World → Prop := fun e a' w' => match e with
    | .normal => ∃ I2 C2 : World → Prop, C2 w' ∧ (∀ w, C2 w → I2 w) ∧ wpStage P l.toArray I2 (LetsOut Q) (fun a' w' => Q .normal a' w') (l.drop p) C2 a'
    | e => Q e a' w'
  have hQL : LetsOut Q → LetsOut Q1 := fun h => h
  have hc0 : closed .any (l.take p).toArray (Array.replicate p false) := fun j oj _ hl => by rw [rep] at hl; cases hl
  have main : wpAny P .any l.toArray Q (p + (l.length - p)) (Array.replicate p false ++ Array.replicate (l.length - p) false) a w.drew := by
    refine wpAny_bar (Q := Q) (Q1 := Q1) hb (fun c a w h => h) (fun h => h) ?_ p (Array.replicate p false) a _ (by simp) hc0 ?_
    · rintro a' w' ⟨I2, C2, hw', hCI2, h2⟩
      obtain ⟨fin, hfin, hfl⟩ := fins l.toArray
      have hcl : closed .any l.toArray (marked l.length p) := by
        intro j oj hj hL e he hbd
        unfold marked at hL ⊢
        rw [getD_both] at hL ⊢
        have hjp : j < p := by
          rcases Nat.lt_or_ge j p with h | h
          · exact h
          · simp [h] at hL
        have := hb.back j oj hjp (by simpa using hj) e he hbd
        simp [show e.on < p by omega]
      refine wpAny_of_T (I := I2) (fin := fin) (Q := fun a' w' => Q .normal a' w') (fun _ _ h => h) hfin _ _ C2 _ _ hcl (.inr hCI2) hw' ?_
      have := wpAnyT_lex (P := P) (I := I2) (md := .any) hfin hfl hB.1 (chain_spec hch) _ (hCI2 _ hw') (l.drop p) p (marked l.length p) C2 a' (by simp) (.inr hCI2)
        hcl (fun j hj => by
          unfold marked
          have h1 : j < (Array.replicate p true ++ Array.replicate (l.length - p) false).size := by simp; omega
          simp [Array.getD_eq_getD_getElem?, Array.getElem?_append, hj]) (by simpa using hlex) h2
      simpa using this
    · obtain ⟨fin, hfin, hfl⟩ := fins (l.take p).toArray
      refine wpAny_of_T (I := I) (fin := fin) (Q := fun a' w' => Q1 .normal a' w') (fun _ _ h => h) hfin _ _ C _ _ hc0 (.inr hCI) hC ?_
      have := wpAnyT_lex (P := P) (I := I) (md := .any) hfin hfl hlex1.1 (chain_spec hch1) _ (hCI _ hC) (l.take p) 0 (Array.replicate p false) C a (by simp) (.inr hCI)
        hc0 (fun j hj => by omega) (by have := hlex1.2; simp [Nat.min_eq_left hle] at this ⊢; exact this) h
      have e : (l.take p).length = p := by simp; omega
      rw [e] at this
      exact this
  have e : Array.replicate p false ++ Array.replicate (l.length - p) false = Array.replicate l.length false := by
    rw [Array.replicate_append_replicate]
    congr 1
    omega
  rw [e] at main
  have e2 : p + (l.length - p) = l.length := by omega
  rw [e2] at main
  simpa using main
end
end Stg
end Go
