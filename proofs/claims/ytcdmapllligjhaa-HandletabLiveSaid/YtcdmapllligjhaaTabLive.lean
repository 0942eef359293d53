/- HandletabLive: what the law keeps. -/
import Derived.Test.YtcdmapllligjhaaTabS
namespace Go.Proofs.Ytcdmapllligjhaa
open Go Go.RowKit Go.Stg

structure LInv (n : Nat) (first : Int) (x : TS) (ev : List Int) (lv : List Ent) : Prop where
  t : TInv n first x
  nd : ev.Nodup
  evs : ∀ h ∈ ev, ∃ j : Nat, ∃ g t : Int, h = packI j g t ∧ j < n ∧ 1 ≤ g ∧ g ≤ (slotN x.g.S j).1 ∧ 1 ≤ t ∧ t ≤ 255
  un : ∀ h ∈ ev, ∀ h' ∈ ev, hSlot h = hSlot h' → hGen h = hGen h' → h = h'
  lvs : ∀ e ∈ lv, e.h ∈ ev ∧ ∃ j : Nat, hSlot e.h = j ∧ (slotN x.g.S j).2 = true ∧ entN x.E j = e
  on : ∀ j, (slotN x.g.S j).2 = true → entN x.E j ∈ lv
  lnd : (lv.map (·.h)).Nodup
theorem LInv.start (n : Nat) (first : Int) : LInv n first (start n) [] [] := by
  refine ⟨TInv.start n first, by simp, by simp, by simp, by simp, fun j hj => ?_, by simp⟩
  have : slotN (fresh n) j = (0, false) := by
    rcases Nat.lt_or_ge j n with h | h
    · rw [slotN_at (by rw [fresh_length]; exact h)]; simp [fresh]
    · rw [slotN_out (by rw [fresh_length]; exact h)]
  have hj' : (slotN (fresh n) j).2 = true := hj
  rw [this] at hj'
  cases hj'
theorem endG_other {x : GS} {k m : Nat} (hne : m ≠ k) : slotN (endG x (k : Int)).S m = slotN x.S m := by
  unfold endG
  by_cases hl : liveN x.S k = true
  · rw [if_pos hl, Int.toNat_natCast]
    have hk : k < x.S.length := by
      rw [liveN_nat] at hl
      rcases Nat.lt_or_ge k x.S.length with h | h
      · exact h
      · rw [slotN_out h] at hl; cases hl
    split
    · show slotN (x.S.set k _) m = _
      rw [slotN_set hk, if_neg hne]
    · show slotN (x.S.set k _) m = _
      rw [slotN_set hk, if_neg hne]
  · rw [if_neg hl]
theorem endG_gen {x : GS} {k m : Nat} : (slotN (endG x (k : Int)).S m).1 = (slotN x.S m).1 := by
  by_cases hne : m = k
  · subst hne
    unfold endG
    by_cases hl : liveN x.S m = true
    · rw [if_pos hl, Int.toNat_natCast]
      have hk : m < x.S.length := by
        rw [liveN_nat] at hl
        rcases Nat.lt_or_ge m x.S.length with h | h
        · exact h
        · rw [slotN_out h] at hl; cases hl
      split
      · show (slotN (x.S.set m _) m).1 = _
        rw [slotN_set hk, if_pos rfl]
      · show (slotN (x.S.set m _) m).1 = _
        rw [slotN_set hk, if_pos rfl]
    · rw [if_neg hl]
  · rw [endG_other hne]
theorem LInv.inj {n : Nat} {first : Int} {x : TS} {ev : List Int} {lv : List Ent} (h : LInv n first x ev lv) (a : Nat) (ha : a < lv.length) (b : Nat) (hb : b < lv.length) (e : lv[a].h = lv[b].h) : a = b := by
  have hp := List.pairwise_iff_getElem.1 h.lnd
  rcases Nat.lt_trichotomy a b with hl | hl | hl
  · exact absurd (by rw [List.getElem_map, List.getElem_map]; exact e) (hp a b (by simpa using ha) (by simpa using hb) hl)
  · exact hl
  · exact absurd (by rw [List.getElem_map, List.getElem_map]; exact e.symm) (hp b a (by simpa using hb) (by simpa using ha) hl)
section
variable {n : Nat} {first : Int} {x : TS} {ev : List Int} {lv : List Ent} (h : LInv n first x ev lv) (hn : n ≤ 4096) (hf1 : 1 ≤ first) (hf2 : first ≤ 4294967295)
include h hn hf1
omit hn in
theorem LInv.slot_lt {j : Nat} (hl : (slotN x.g.S j).2 = true) : j < n ∧ 1 ≤ (slotN x.g.S j).1 ∧ (slotN x.g.S j).1 ≤ 4294967295 := by
  have hj : j < n := by
    rw [← h.t.g.len]
    rcases Nat.lt_or_ge j x.g.S.length with h' | h'
    · exact h'
    · rw [slotN_out h'] at hl; cases hl
  rcases h.t.g.gens j hj with e | e
  · rw [e] at hl; cases hl
  · exact ⟨hj, by omega, e.2⟩
omit hf1 in
theorem LInv.bound {k : Int} (hk : k ∈ ev) : 0 ≤ k ∧ k ≤ 18446744073709551615 := by
  obtain ⟨j, g, t, rfl, h1, h2, h3, h4, h5⟩ := h.evs k hk
  have h6 : (slotN x.g.S j).1 ≤ 4294967295 := by
    rcases h.t.g.gens j h1 with e | e
    · rw [e]; show (0 : Int) ≤ _; omega
    · exact e.2
  unfold packI
  omega
omit hf1 in
theorem LInv.parts {k : Int} (hk : k ∈ ev) : ∃ j : Nat, ∃ t : Int, hSlot k = j ∧ hTag k = t ∧ j < n ∧ 1 ≤ hGen k ∧ hGen k ≤ (slotN x.g.S j).1 := by
  obtain ⟨j, g, t, rfl, h1, h2, h3, h4, h5⟩ := h.evs k hk
  have h6 : (slotN x.g.S j).1 ≤ 4294967295 := by
    rcases h.t.g.gens j h1 with e | e
    · rw [e]; show (0 : Int) ≤ _; omega
    · exact e.2
  rw [hSlot_pack (by omega), hGen_pack (by omega) (by omega), hTag_pack (by omega) (by omega)]
  exact ⟨j, t, rfl, rfl, h1, h2, h3⟩
/-- A handle that was issued: it is one of the live ones, and resolves; or it is stale. -/
theorem LInv.res {k : Int} (hk : k ∈ ev) : (∃ e ∈ lv, e.h = k ∧ resE x k = 0 ∧ resN x k = e) ∨ ((∀ e ∈ lv, e.h ≠ k) ∧ resE x k = 11) := by
  obtain ⟨j, t, hs, ht, hj, hg1, hg2⟩ := h.parts hn hk
  have hlen := h.t.g.len
  have hnotlive : (∀ e ∈ lv, e.h ≠ k) → ((slotN x.g.S j).2 = false ∨ (slotN x.g.S j).1 ≠ hGen k) → (∀ e ∈ lv, e.h ≠ k) ∧ resE x k = 11 := fun h1 h2 => by
    refine ⟨h1, ?_⟩
    unfold resE
    rw [hs, if_neg (by omega), liveN_nat, Int.toNat_natCast, if_pos h2]
  cases hl : (slotN x.g.S j).2 with
  | false =>
    refine .inr (hnotlive (fun e he hek => ?_) (.inl hl))
    obtain ⟨_, j', hs', hl', _⟩ := h.lvs e he
    rw [hek, hs] at hs'
    obtain rfl : j = j' := by omega
    rw [hl] at hl'; cases hl'
  | true =>
    have he := h.on j hl
    obtain ⟨hee, _⟩ := h.lvs _ he
    obtain ⟨⟨hta, htb⟩, hp⟩ := h.t.ok j hj hl
    obtain ⟨_, hga, hgb⟩ := h.slot_lt hf1 hl
    by_cases hg : (slotN x.g.S j).1 = hGen k
    · have hek : (entN x.E j).h = k := by
        refine h.un _ hee k hk ?_ ?_
        · rw [hp, hSlot_pack (by omega), hs]
        · rw [hp, hGen_pack (by omega) (by omega), hg]
      have hr : resE x k = 0 := by
        unfold resE
        rw [hs, if_neg (by omega), liveN_nat, Int.toNat_natCast, if_neg (by rw [hl]; simp [hg]), if_neg]
        rw [← hek, hp, hTag_pack (by omega) (by omega)]
        simp
      refine .inl ⟨_, he, hek, hr, ?_⟩
      unfold resN
      rw [if_pos hr, hs, Int.toNat_natCast]
    · refine .inr (hnotlive (fun e he' hek => hg ?_) (.inr hg))
      obtain ⟨_, j', hs', hl', hE⟩ := h.lvs e he'
      rw [hek, hs] at hs'
      obtain rfl : j = j' := by omega
      rw [← hek, ← hE, hp, hGen_pack (by omega) (by omega)]
include hf2
theorem LInv.issue (hp : 0 < x.g.F.length) (owner tag off len d : Int) (hb : ¬ badOT owner tag) :
    (issEnt first x owner tag off len d).h ∉ ev ∧ LInv n first (issT first x owner tag off len d) (ev ++ [(issEnt first x owner tag off len d).h]) (lv ++ [issEnt first x owner tag off len d]) := by
  have hk : issOk x owner tag := ⟨hb, hp⟩
  have hT := h.t.issue hf1 hf2 owner tag off len d
  obtain ⟨_, hj, _, _, hjn, hd, hg0, hg1, hsl⟩ := h.t.g.pick hf1 hf2 hp d
  obtain ⟨hn1, hn2⟩ := nextG_in h.t hf1 hf2 hp d
  have hgt : (slotN x.g.S (pickS x.g.F d)).1 < nextG first (slotN x.g.S (pickS x.g.F d)).1 := by
    unfold nextG; split <;> omega
  have hdead : (slotN x.g.S (pickS x.g.F d)).2 = false := by rw [hsl]; exact hd
  have hjE : pickS x.g.F d < x.E.length := by rw [h.t.len]; exact hjn
  have hS : ∀ m, slotN (issT first x owner tag off len d).g.S m = if m = pickS x.g.F d then (nextG first (slotN x.g.S (pickS x.g.F d)).1, true) else slotN x.g.S m := fun m => by
    unfold issT
    rw [if_pos hk]
    simp only [issG_some hp]
    rw [slotN_set hj]
  have hE : ∀ m, entN (issT first x owner tag off len d).E m = if m = pickS x.g.F d then issEnt first x owner tag off len d else entN x.E m := fun m => by
    unfold issT
    rw [if_pos hk]
    simp only
    rw [entN_set hjE]
  have hh : (issEnt first x owner tag off len d).h = packI (pickS x.g.F d) (nextG first (slotN x.g.S (pickS x.g.F d)).1) tag := rfl
  have hb' : 1 ≤ tag ∧ tag ≤ 255 := by unfold badOT at hb; omega
  rw [hh]
  generalize issT first x owner tag off len d = x' at *
  generalize issEnt first x owner tag off len d = e' at *
  generalize pickS x.g.F d = j at *
  generalize nextG first (slotN x.g.S j).1 = g' at *
  have hs' : hSlot (packI j g' tag) = j := hSlot_pack (by omega)
  have hg' : hGen (packI j g' tag) = g' := hGen_pack (by omega) (by omega)
  have hold : ∀ k ∈ ev, hSlot k = j → hGen k < g' := fun k hkm hsk => by
    obtain ⟨j2, t2, hs2, _, _, _, h2⟩ := h.parts hn hkm
    obtain rfl : j = j2 := by omega
    omega
  have hnew : packI j g' tag ∉ ev := fun hm => by
    have := hold _ hm hs'
    omega
  refine ⟨hnew, hT, ?_, ?_, ?_, ?_, ?_, ?_⟩
  · rw [List.nodup_append]
    exact ⟨h.nd, by simp, fun a ha b hb e => hnew (by rw [List.mem_singleton.1 hb] at e; rw [← e]; exact ha)⟩
  · intro k hkm
    rcases List.mem_append.1 hkm with hkm | hkm
    · obtain ⟨j2, g2, t2, e2, h1, h2, h3, h4, h5⟩ := h.evs k hkm
      refine ⟨j2, g2, t2, e2, h1, h2, ?_, h4, h5⟩
      rw [hS]
      by_cases e : j2 = j
      · rw [if_pos e]; subst e; show g2 ≤ g'; omega
      · rw [if_neg e]; exact h3
    · refine ⟨j, g', tag, List.mem_singleton.1 hkm, hjn, hn1, ?_, hb'.1, hb'.2⟩
      rw [hS, if_pos rfl]; exact Int.le_refl _
  · intro a ha b hb hs hg
    rcases List.mem_append.1 ha with ha | ha <;> rcases List.mem_append.1 hb with hb | hb
    · exact h.un a ha b hb hs hg
    · rw [List.mem_singleton.1 hb] at hs hg
      have := hold a ha (by omega)
      omega
    · rw [List.mem_singleton.1 ha] at hs hg
      have := hold b hb (by omega)
      omega
    · rw [List.mem_singleton.1 ha, List.mem_singleton.1 hb]
  · intro e he
    rcases List.mem_append.1 he with he | he
    · obtain ⟨h1, j2, h2, h3, h4⟩ := h.lvs e he
      have hne : j2 ≠ j := fun e => by rw [e, hdead] at h3; cases h3
      exact ⟨List.mem_append_left _ h1, j2, h2, by rw [hS, if_neg hne]; exact h3, by rw [hE, if_neg hne]; exact h4⟩
    · obtain rfl := List.mem_singleton.1 he
      exact ⟨List.mem_append_right _ (by simp [hh]), j, by rw [hh, hs'], by rw [hS, if_pos rfl], by rw [hE, if_pos rfl]⟩
  · intro m hm
    rw [hS] at hm
    rw [hE]
    by_cases e : m = j
    · rw [if_pos e]; simp
    · rw [if_neg e] at hm ⊢
      exact List.mem_append_left _ (h.on m hm)
  · rw [List.map_append, List.nodup_append]
    refine ⟨h.lnd, by simp, fun a ha b hb e => hnew ?_⟩
    obtain ⟨e2, he2, rfl⟩ := List.mem_map.1 ha
    have hb2 : b = e'.h := by simpa using hb
    rw [← hh, ← hb2, ← e]
    exact (h.lvs e2 he2).1
omit hf2 in
theorem LInv.drop {k : Int} (hk : k ∈ ev) (i : Nat) (hi : i < lv.length) (he : lv[i].h = k) : resE x k = 0 ∧ LInv n first (dropT x k) ev (lv.eraseIdx i) := by
  have hr : resE x k = 0 := by
    rcases h.res hn hf1 hk with ⟨e, _, _, h0, _⟩ | ⟨h1, _⟩
    · exact h0
    · exact absurd he (h1 _ (List.getElem_mem hi))
  refine ⟨hr, ?_⟩
  have hT := h.t.drop k
  obtain ⟨_, j, hs, hl, hE⟩ := h.lvs _ (List.getElem_mem hi)
  rw [he] at hs
  have hD : dropT x k = ⟨endG x.g (j : Int), x.E⟩ := by unfold dropT; rw [if_pos hr, hs]
  rw [hD] at hT ⊢
  have hinj := h.inj
  refine ⟨hT, h.nd, fun a ha => ?_, h.un, fun e hm => ?_, fun m hm => ?_, ?_⟩
  · obtain ⟨j2, g2, t2, e2, h1, h2, h3, h4, h5⟩ := h.evs a ha
    exact ⟨j2, g2, t2, e2, h1, h2, by show g2 ≤ (slotN (endG x.g (j : Int)).S j2).1; rw [endG_gen]; exact h3, h4, h5⟩
  · obtain ⟨i2, hi2, hne, rfl⟩ := List.mem_eraseIdx_iff_getElem.1 hm
    obtain ⟨h1, j2, h2, h3, h4⟩ := h.lvs _ (List.getElem_mem hi2)
    have hjj : j2 ≠ j := fun e => hne (hinj i2 hi2 i hi (by rw [← h4, ← hE, e]))
    refine ⟨h1, j2, h2, ?_, h4⟩
    show (slotN (endG x.g (j : Int)).S j2).2 = true
    rw [endG_other hjj]; exact h3
  · obtain ⟨hne, e⟩ := endG_live hl hm
    have hm' : (slotN x.g.S m).2 = true := by rw [← e]; exact hm
    obtain ⟨i2, hi2, e2⟩ := List.getElem_of_mem (h.on m hm')
    refine List.mem_eraseIdx_iff_getElem.2 ⟨i2, hi2, fun ei => hne ?_, e2⟩
    subst ei
    obtain ⟨_, j3, h3, _, h4⟩ := h.lvs _ (List.getElem_mem hi2)
    obtain ⟨hm1, hm2, hm3⟩ := h.slot_lt hf1 hm'
    obtain ⟨⟨ha, hb⟩, hp⟩ := h.t.ok m hm1 hm'
    have hsm : hSlot (lv[i2].h) = m := by rw [e2, hp, hSlot_pack (by omega)]
    rw [he, hs] at hsm
    omega
  · exact h.lnd.sublist ((List.eraseIdx_sublist lv i).map _)
end
end Go.Proofs.Ytcdmapllligjhaa
