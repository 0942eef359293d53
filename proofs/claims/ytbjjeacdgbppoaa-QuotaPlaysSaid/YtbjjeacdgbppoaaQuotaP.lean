/- The two meters side by side: what each call does to the pair. -/
import Derived.Test.YtbjjeacdgbppoaaQuotaU
namespace Go.Proofs.Ytbjjeacdgbppoaa
open Go Go.RowKit Go.Stg

/-- A meter among the worlds that differ from W in S alone. -/
def One (S : List Nat) (W : World) (b : Nat) (l : Q) (f : Int → Q) (w : World) : Prop :=
  ∃ mo, Mod S W w ∧ MeterAt w b mo l f ∧ b ∈ S ∧ ∀ x, mo = some x → x ∈ S ∨ W.heap.size ≤ x
/-- Both meters. -/
def Pair (S : List Nat) (W : World) (b rb : Nat) (l : Q) (f : Int → Q) (L : List (Int × Q)) (w : World) : Prop :=
  ∃ mo sv, Mod S W w ∧ MeterAt w b mo l f ∧ RAt w rb sv l L ∧ b ∈ S ∧ rb ∈ S ∧ b ≠ rb ∧ mo ≠ some rb ∧ sv.ownBlock ≠ some b ∧ (∀ x, mo = some x → sv.ownBlock ≠ some x) ∧
    (∀ x, mo = some x → x ∈ S ∨ W.heap.size ≤ x) ∧ (∀ x, sv.ownBlock = some x → x ∈ S ∨ W.heap.size ≤ x)
def addF (l : Q) (f : Int → Q) (p : Int) (q : Q) : Int → Q := if fitsE l (f p) q = 0 then upd f p ((f p).add q) else f
def subF (f : Int → Q) (p : Int) (q : Q) : Int → Q := if subE (f p) q = 0 then upd f p ((f p).sub q) else f
def addL (l : Q) (L : List (Int × Q)) (p : Int) (q : Q) : List (Int × Q) := if fitsE l (rget p L) q = 0 then rset p ((rget p L).add q) L else L
def subL (L : List (Int × Q)) (p : Int) (q : Q) : List (Int × Q) := if subE (rget p L) q = 0 then rset p ((rget p L).sub q) L else L
def Agree (f : Int → Q) (L : List (Int × Q)) : Prop := ∀ k, f k = rget k L

theorem rget_filter (p k : Int) : ∀ L : List (Int × Q), k ≠ p → rget k (L.filter (fun s => s.1 != p)) = rget k L
  | [], _ => rfl
  | s :: L, h => by
    have ih := rget_filter p k L h
    by_cases hs : s.1 = p
    · have : s.1 ≠ k := fun e => h (by rw [← e, hs])
      simp [hs, rget, ih]
      intro e; exact absurd e (fun e => h e.symm)
    · simp [hs, rget, ih]
theorem rget_app (k : Int) : ∀ (L M : List (Int × Q)), (∀ s, s ∈ L → s.1 ≠ k) → rget k (L ++ M) = rget k M
  | [], _, _ => rfl
  | s :: L, M, h => by
    have h1 := h s (by simp)
    simp [rget, h1, rget_app k L M (fun s hs => h s (by simp [hs]))]
theorem rget_app_other (p k : Int) (v : Q) (h : k ≠ p) : ∀ L : List (Int × Q), rget k (L ++ [(p, v)]) = rget k L
  | [] => by simp [rget, Ne.symm h]
  | s :: L => by simp [rget, rget_app_other p k v h L]
theorem rget_rset (p k : Int) (v : Q) (L : List (Int × Q)) : rget k (rset p v L) = if k = p then v else rget k L := by
  unfold rset
  by_cases h : k = p
  · subst h
    rw [rget_app k _ _ (fun s hs => by simp at hs; exact hs.2)]
    simp [rget]
  · rw [rget_app_other p k v h, rget_filter p k L h, if_neg h]
theorem Agree.set {f : Int → Q} {L : List (Int × Q)} (h : Agree f L) (p : Int) (v : Q) : Agree (upd f p v) (rset p v L) := fun k => by
  rw [rget_rset]; unfold upd; split
  · rfl
  · exact h k
theorem Agree.add {f : Int → Q} {L : List (Int × Q)} (h : Agree f L) (l : Q) (p : Int) (q : Q) : Agree (addF l f p q) (addL l L p q) := by
  unfold addF addL
  rw [h p]
  split
  · exact h.set p _
  · exact h
theorem Agree.sub {f : Int → Q} {L : List (Int × Q)} (h : Agree f L) (p : Int) (q : Q) : Agree (subF f p q) (subL L p q) := by
  unfold subF subL
  rw [h p]
  split
  · exact h.set p _
  · exact h
theorem rset_length (p : Int) (v : Q) (L : List (Int × Q)) : (rset p v L).length ≤ L.length + 1 := by
  unfold rset; simp; exact List.length_filter_le _ _
theorem addL_length (l : Q) (L : List (Int × Q)) (p : Int) (q : Q) : (addL l L p q).length ≤ L.length + 1 := by
  unfold addL; split
  · exact rset_length _ _ _
  · omega
theorem subL_length (L : List (Int × Q)) (p : Int) (q : Q) : (subL L p q).length ≤ L.length + 1 := by
  unfold subL; split
  · exact rset_length _ _ _
  · omega

section
variable {S : List Nat} {W w : World} {b rb : Nat} {l : Q} {f : Int → Q} {L : List (Int × Q)}

theorem One.mod (h : One S W b l f w) : Mod S W w := let ⟨_, h, _⟩ := h; h
theorem Pair.mod (h : Pair S W b rb l f L w) : Mod S W w := let ⟨_, _, h, _⟩ := h; h
theorem One.then (h : One S W b l f w) {w' : World} (hm : Mod [] w w') : One S W b l f w' := by
  obtain ⟨mo, h1, h2, h3, h4⟩ := h
  exact ⟨mo, h1.nil_then hm, h2.mod hm (by simp), h3, h4⟩
theorem Pair.then (h : Pair S W b rb l f L w) {w' : World} (hm : Mod [] w w') : Pair S W b rb l f L w' := by
  obtain ⟨mo, sv, h1, h2, h3, h4⟩ := h
  exact ⟨mo, sv, h1.nil_then hm, h2.mod hm (by simp), h3.mod hm (by simp), h4⟩
theorem One.pos (h : One S W b l f w) (k : Int) : (f k).pos := let ⟨_, _, h, _⟩ := h; h.has k
theorem Pair.pos (h : Pair S W b rb l f L w) (k : Int) : (f k).pos := let ⟨_, _, _, h, _⟩ := h; h.has k
theorem Pair.lim (h : Pair S W b rb l f L w) : l.i64 := let ⟨_, _, _, h, _⟩ := h; h.lim

theorem One.changed {mo : Option Nat} {f' : Int → Q} {v : Value} {e : Ending} {w' : World} (h1 : Mod S W w) (h3 : b ∈ S) (h4 : ∀ x, mo = some x → x ∈ S ∨ W.heap.size ≤ x) (hc : Changed v b mo l f' w e w') :
    e = .returned v ∧ One S W b l f' w' := by
  obtain ⟨mo', he, hm, hM, hx⟩ := hc
  refine ⟨he, mo', h1.then hm ?_, hM, h3, fun x hx' => ?_⟩
  · intro x hx
    simp at hx
    rcases hx with rfl | hx
    · exact .inl h3
    · exact h4 x hx
  · rcases hx x hx' with h | h
    · exact h4 x h
    · exact .inr (Nat.le_trans h1.size h)
theorem Pair.changed {mo : Option Nat} {sv : Value} {f' : Int → Q} {v : Value} {e : Ending} {w' : World} (h : Mod S W w ∧ MeterAt w b mo l f ∧ RAt w rb sv l L ∧ b ∈ S ∧ rb ∈ S ∧ b ≠ rb ∧ mo ≠ some rb ∧ sv.ownBlock ≠ some b ∧ (∀ x, mo = some x → sv.ownBlock ≠ some x) ∧
    (∀ x, mo = some x → x ∈ S ∨ W.heap.size ≤ x) ∧ (∀ x, sv.ownBlock = some x → x ∈ S ∨ W.heap.size ≤ x)) (hc : Changed v b mo l f' w e w') :
    e = .returned v ∧ Pair S W b rb l f' L w' := by
  obtain ⟨h1, h2, h3, h4, h5, h6, h7, h8, h9, h10, h11⟩ := h
  obtain ⟨mo', he, hm, hM, hx⟩ := hc
  have hown : ∀ x, sv.ownBlock = some x → x < w.heap.size := fun x hx => (h3.row.lt x hx).2
  have hrb := lt_of h3.blk
  refine ⟨he, mo', sv, h1.then hm ?_, hM, h3.mod hm ?_, h4, h5, h6, ?_, h8, ?_, ?_, h11⟩
  · intro x hx
    simp at hx
    rcases hx with rfl | hx
    · exact .inl h4
    · exact h10 x hx
  · intro x hx
    simp at hx ⊢
    rcases hx with rfl | hx
    · exact ⟨Ne.symm h6, h7⟩
    · exact ⟨fun e => h8 (e ▸ hx), fun e => h9 x e hx⟩
  · intro e
    rcases hx rb e with h | h
    · exact h7 h
    · omega
  · intro x hx' hx''
    rcases hx x hx' with h | h
    · exact h9 x h hx''
    · have := hown x hx''; omega
  · intro x hx'
    rcases hx x hx' with h | h
    · exact h10 x h
    · exact .inr (Nat.le_trans h1.size h)
theorem Pair.rchanged {mo : Option Nat} {sv : Value} {L' : List (Int × Q)} {v : Value} {e : Ending} {w' : World} (h : Mod S W w ∧ MeterAt w b mo l f ∧ RAt w rb sv l L ∧ b ∈ S ∧ rb ∈ S ∧ b ≠ rb ∧ mo ≠ some rb ∧ sv.ownBlock ≠ some b ∧ (∀ x, mo = some x → sv.ownBlock ≠ some x) ∧
    (∀ x, mo = some x → x ∈ S ∨ W.heap.size ≤ x) ∧ (∀ x, sv.ownBlock = some x → x ∈ S ∨ W.heap.size ≤ x)) (hc : RChanged v rb l L' w e w') :
    e = .returned v ∧ Pair S W b rb l f L' w' := by
  obtain ⟨h1, h2, h3, h4, h5, h6, h7, h8, h9, h10, h11⟩ := h
  obtain ⟨sv', he, hm, hR, hx⟩ := hc
  have hlb := lt_of h2.blk
  have hlm := h2.map.lt
  refine ⟨he, mo, sv', h1.then hm (by simp [h5]), h2.mod hm ?_, hR, h4, h5, h6, h7, ?_, ?_, h10, ?_⟩
  · intro x hx
    simp at hx ⊢
    rcases hx with rfl | hx
    · exact h6
    · intro e; exact h7 (e ▸ hx)
  · intro e; have := hx b e; omega
  · intro x hx' hx''
    have := hx x hx''
    have := hlm x hx'
    omega
  · intro x hx'
    exact .inr (Nat.le_trans h1.size (hx x hx'))

/-- From here on: the same meters among the worlds that differ from this one in their own blocks alone. -/
theorem Pair.base (h : Pair S W b rb l f L w) : ∃ S', (∀ x, x ∈ S' → x < w.heap.size ∧ (x ∈ S ∨ W.heap.size ≤ x)) ∧ ∀ T V, Mod T w V → (∀ x, x ∈ S' → x ∉ T) → Pair S' V b rb l f L V := by
  obtain ⟨mo, sv, h1, h2, h3, h4, h5, h6, h7, h8, h9, h10, h11⟩ := h
  refine ⟨b :: rb :: (mo.toList ++ sv.ownBlock.toList), fun x hx => ?_, fun T V hV hT => ⟨mo, sv, Mod.refl _ _, h2.mod hV (fun x hx => hT x (by simp at hx ⊢; grind)), h3.mod hV (fun x hx => hT x (by simp at hx ⊢; grind)), by simp, by simp, h6, h7, h8, h9, fun x hx => .inl (by simp [hx]), fun x hx => .inl (by simp [hx])⟩⟩
  simp at hx
  rcases hx with rfl | rfl | hx | hx
  · exact ⟨lt_of h2.blk, .inl h4⟩
  · exact ⟨lt_of h3.blk, .inl h5⟩
  · exact ⟨h2.map.lt x hx, h10 x hx⟩
  · exact ⟨(h3.row.lt x hx).2, h11 x hx⟩
theorem Pair.back {S' : List Nat} {V : World} (h : Pair S' V b rb l f L w) (hm : Mod S W V) (hb : b ∈ S) (hrb : rb ∈ S) (hS : ∀ x, x ∈ S' → x ∈ S ∨ W.heap.size ≤ x) : Pair S W b rb l f L w := by
  obtain ⟨mo, sv, h1, h2, h3, h4, h5, h6, h7, h8, h9, h10, h11⟩ := h
  refine ⟨mo, sv, hm.then h1 hS, h2, h3, hb, hrb, h6, h7, h8, h9, fun x hx => ?_, fun x hx => ?_⟩
  · rcases h10 x hx with h | h
    · exact hS x h
    · exact .inr (Nat.le_trans hm.size h)
  · rcases h11 x hx with h | h
    · exact hS x h
    · exact .inr (Nat.le_trans hm.size h)
theorem Pair.mem (h : Pair S W b rb l f L w) : b ∈ S ∧ rb ∈ S := let ⟨_, _, _, _, _, h4, h5, _⟩ := h; ⟨h4, h5⟩
theorem One.base (h : One S W b l f w) : ∃ S', (∀ x, x ∈ S' → x < w.heap.size ∧ (x ∈ S ∨ W.heap.size ≤ x)) ∧ ∀ T V, Mod T w V → (∀ x, x ∈ S' → x ∉ T) → One S' V b l f V := by
  obtain ⟨mo, h1, h2, h3, h4⟩ := h
  refine ⟨b :: mo.toList, fun x hx => ?_, fun T V hV hT => ⟨mo, Mod.refl _ _, h2.mod hV (fun x hx => hT x (by simp at hx ⊢; grind)), by simp, fun x hx => .inl (by simp [hx])⟩⟩
  simp at hx
  rcases hx with rfl | hx
  · exact ⟨lt_of h2.blk, .inl h3⟩
  · exact ⟨h2.map.lt x hx, h4 x hx⟩
theorem One_Get (h : One S W b l f w) (p : Int) :
    Calls Try.prog 11 #[.pointer (some ⟨b, 0, none⟩), .int .i64 p] w fun e w' => e = .returned (.agg #[.int .i64 (f p).b, .int .i64 (f p).o, .int .i64 (f p).r]) ∧ One S W b l f w' := by
  obtain ⟨mo, h1, h2, h3, h4⟩ := h
  exact (Get_any p l b mo f w h2).mono fun e w' ⟨he, hm⟩ => ⟨he, One.then ⟨mo, h1, h2, h3, h4⟩ hm⟩
theorem One_Add (h : One S W b l f w) (p : Int) (q : Q) :
    Calls Try.prog 9 #[.pointer (some ⟨b, 0, none⟩), .int .i64 p, .agg #[.int .i64 q.b, .int .i64 q.o, .int .i64 q.r]] w fun e w' => e = .returned (.int .i64 (fitsE l (f p) q)) ∧ One S W b l (addF l f p q) w' := by
  obtain ⟨mo, h1, h2, h3, h4⟩ := h
  unfold addF
  by_cases hz : fitsE l (f p) q = 0
  · rw [if_pos hz, hz]
    exact (Add_yes p q l b mo f w h2 hz).mono fun e w' hc => One.changed h1 h3 h4 hc
  · rw [if_neg hz]
    exact (Add_no p q l b mo f w h2 hz).mono fun e w' ⟨he, hm⟩ => ⟨he, One.then ⟨mo, h1, h2, h3, h4⟩ hm⟩
theorem One_Sub (h : One S W b l f w) (p : Int) (q : Q) :
    Calls Try.prog 12 #[.pointer (some ⟨b, 0, none⟩), .int .i64 p, .agg #[.int .i64 q.b, .int .i64 q.o, .int .i64 q.r]] w fun e w' => e = .returned (.int .i64 (subE (f p) q)) ∧ One S W b l (subF f p q) w' := by
  obtain ⟨mo, h1, h2, h3, h4⟩ := h
  unfold subF
  by_cases hz : subE (f p) q = 0
  · rw [if_pos hz, hz]
    exact (Sub_yes p q l b mo f w h2 hz).mono fun e w' hc => One.changed h1 h3 h4 hc
  · have hz1 : subE (f p) q = 1 := by
      unfold subE at hz ⊢
      split
      · rfl
      · rename_i h; rw [if_neg h] at hz; exact absurd rfl hz
    rw [if_neg hz, hz1]
    exact (Sub_no p q l b mo f w h2 hz1).mono fun e w' ⟨he, hm⟩ => ⟨he, One.then ⟨mo, h1, h2, h3, h4⟩ hm⟩

theorem Pair_Get (h : Pair S W b rb l f L w) (p : Int) :
    Calls Try.prog 11 #[.pointer (some ⟨b, 0, none⟩), .int .i64 p] w fun e w' => e = .returned (.agg #[.int .i64 (f p).b, .int .i64 (f p).o, .int .i64 (f p).r]) ∧ Pair S W b rb l f L w' := by
  obtain ⟨mo, sv, h1, h2, h3⟩ := h
  exact (Get_any p l b mo f w h2).mono fun e w' ⟨he, hm⟩ => ⟨he, Pair.then ⟨mo, sv, h1, h2, h3⟩ hm⟩
theorem Pair_Fits (h : Pair S W b rb l f L w) (p : Int) (q : Q) :
    Calls Try.prog 15 #[.pointer (some ⟨b, 0, none⟩), .int .i64 p, .agg #[.int .i64 q.b, .int .i64 q.o, .int .i64 q.r]] w fun e w' => e = .returned (.int .i64 (fitsE l (f p) q)) ∧ Pair S W b rb l f L w' := by
  obtain ⟨mo, sv, h1, h2, h3⟩ := h
  exact (Fits_any p q l b mo f w h2).mono fun e w' ⟨he, hm⟩ => ⟨he, Pair.then ⟨mo, sv, h1, h2, h3⟩ hm⟩
theorem Pair_Add (h : Pair S W b rb l f L w) (p : Int) (q : Q) :
    Calls Try.prog 9 #[.pointer (some ⟨b, 0, none⟩), .int .i64 p, .agg #[.int .i64 q.b, .int .i64 q.o, .int .i64 q.r]] w fun e w' => e = .returned (.int .i64 (fitsE l (f p) q)) ∧ Pair S W b rb l (addF l f p q) L w' := by
  obtain ⟨mo, sv, h⟩ := h
  unfold addF
  by_cases hz : fitsE l (f p) q = 0
  · rw [if_pos hz, hz]
    exact (Add_yes p q l b mo f w h.2.1 hz).mono fun e w' hc => Pair.changed h hc
  · rw [if_neg hz]
    exact (Add_no p q l b mo f w h.2.1 hz).mono fun e w' ⟨he, hm⟩ => ⟨he, Pair.then ⟨mo, sv, h⟩ hm⟩
theorem Pair_Sub (h : Pair S W b rb l f L w) (p : Int) (q : Q) :
    Calls Try.prog 12 #[.pointer (some ⟨b, 0, none⟩), .int .i64 p, .agg #[.int .i64 q.b, .int .i64 q.o, .int .i64 q.r]] w fun e w' => e = .returned (.int .i64 (subE (f p) q)) ∧ Pair S W b rb l (subF f p q) L w' := by
  obtain ⟨mo, sv, h⟩ := h
  unfold subF
  by_cases hz : subE (f p) q = 0
  · rw [if_pos hz, hz]
    exact (Sub_yes p q l b mo f w h.2.1 hz).mono fun e w' hc => Pair.changed h hc
  · have hz1 : subE (f p) q = 1 := by
      unfold subE at hz ⊢
      split
      · rfl
      · rename_i h; rw [if_neg h] at hz; exact absurd rfl hz
    rw [if_neg hz, hz1]
    exact (Sub_no p q l b mo f w h.2.1 hz1).mono fun e w' ⟨he, hm⟩ => ⟨he, Pair.then ⟨mo, sv, h⟩ hm⟩
theorem Pair_Reset (h : Pair S W b rb l f L w) (p : Int) :
    Calls Try.prog 19 #[.pointer (some ⟨b, 0, none⟩), .int .i64 p] w fun e w' => e = .returned (.tuple #[]) ∧ Pair S W b rb l (upd f p Q.zero) L w' := by
  obtain ⟨mo, sv, h⟩ := h
  exact (Reset_any p l b mo f w h.2.1).mono fun e w' hc => Pair.changed h hc
theorem Pair_RGet (h : Pair S W b rb l f L w) (p : Int) :
    Calls Try.prog 14 #[.pointer (some ⟨rb, 0, none⟩), .int .i64 p] w fun e w' => e = .returned (.agg #[.int .i64 (rget p L).b, .int .i64 (rget p L).o, .int .i64 (rget p L).r]) ∧ Pair S W b rb l f L w' := by
  obtain ⟨mo, sv, h⟩ := h
  exact (RGet_any p l rb sv L w h.2.2.1).mono fun e w' ⟨he, hm⟩ => ⟨he, Pair.then ⟨mo, sv, h⟩ hm⟩
theorem Pair_RFits (h : Pair S W b rb l f L w) (p : Int) (q : Q) (hpos : (rget p L).pos) (hq : q.i64) :
    Calls Try.prog 16 #[.pointer (some ⟨rb, 0, none⟩), .int .i64 p, .agg #[.int .i64 q.b, .int .i64 q.o, .int .i64 q.r]] w fun e w' => e = .returned (.int .i64 (fitsE l (rget p L) q)) ∧ Pair S W b rb l f L w' := by
  obtain ⟨mo, sv, h⟩ := h
  exact (RFits_any p q l rb sv L w h.2.2.1 hpos hq).mono fun e w' ⟨he, hm⟩ => ⟨he, Pair.then ⟨mo, sv, h⟩ hm⟩
theorem Pair_RAdd (h : Pair S W b rb l f L w) (p : Int) (q : Q) (hpos : (rget p L).pos) (hq : q.i64) (hlen : L.length < 1000000) :
    Calls Try.prog 17 #[.pointer (some ⟨rb, 0, none⟩), .int .i64 p, .agg #[.int .i64 q.b, .int .i64 q.o, .int .i64 q.r]] w fun e w' => e = .returned (.int .i64 (fitsE l (rget p L) q)) ∧ Pair S W b rb l f (addL l L p q) w' := by
  obtain ⟨mo, sv, h⟩ := h
  unfold addL
  by_cases hz : fitsE l (rget p L) q = 0
  · rw [if_pos hz, hz]
    exact (RAdd_yes p q l rb sv L w h.2.2.1 hpos hq hlen hz).mono fun e w' hc => Pair.rchanged h hc
  · rw [if_neg hz]
    exact (RAdd_no p q l rb sv L w h.2.2.1 hpos hq hz).mono fun e w' ⟨he, hm⟩ => ⟨he, Pair.then ⟨mo, sv, h⟩ hm⟩
theorem Pair_RSub (h : Pair S W b rb l f L w) (p : Int) (q : Q) (hpos : (rget p L).pos) (hlen : L.length < 1000000) :
    Calls Try.prog 18 #[.pointer (some ⟨rb, 0, none⟩), .int .i64 p, .agg #[.int .i64 q.b, .int .i64 q.o, .int .i64 q.r]] w fun e w' => e = .returned (.int .i64 (subE (rget p L) q)) ∧ Pair S W b rb l f (subL L p q) w' := by
  obtain ⟨mo, sv, h⟩ := h
  unfold subL
  by_cases hz : subE (rget p L) q = 0
  · rw [if_pos hz, hz]
    exact (RSub_yes p q l rb sv L w h.2.2.1 hpos hlen hz).mono fun e w' hc => Pair.rchanged h hc
  · have hz1 : subE (rget p L) q = 1 := by
      unfold subE at hz ⊢
      split
      · rfl
      · rename_i h; rw [if_neg h] at hz; exact absurd rfl hz
    rw [if_neg hz, hz1]
    exact (RSub_no p q l rb sv L w h.2.2.1 hz1).mono fun e w' ⟨he, hm⟩ => ⟨he, Pair.then ⟨mo, sv, h⟩ hm⟩
theorem Pair_RReset (h : Pair S W b rb l f L w) (p : Int) (hlen : L.length < 1000000) :
    Calls Try.prog 20 #[.pointer (some ⟨rb, 0, none⟩), .int .i64 p] w fun e w' => e = .returned (.tuple #[]) ∧ Pair S W b rb l f (rset p Q.zero L) w' := by
  obtain ⟨mo, sv, h⟩ := h
  exact (RReset_any p l rb sv L w h.2.2.1 hlen).mono fun e w' hc => Pair.rchanged h hc
end
end Go.Proofs.Ytbjjeacdgbppoaa
