/- HandletabOrder: the walk of the law. -/
import Derived.Test.YtcdmapllligjhaaTabS
namespace Go.Proofs.Ytcdmapllligjhaa
open Go Go.RowKit Go.Stg

def f2 (e o : Int) : Int := if e = 0 ∧ badO o then 1 else e
theorem giveE_f2 (x : TS) (h o : Int) : giveE x h o = f2 (resE x h) o := by
  unfold giveE f2
  by_cases h0 : resE x h = 0
  · rw [if_pos h0]
    by_cases hb : badO o
    · rw [if_pos hb, if_pos ⟨h0, hb⟩]
    · rw [if_neg hb, if_neg (fun e => hb e.2), h0]
  · rw [if_neg h0, if_neg (fun e => h0 e.1)]
theorem first2_ok (e o : Int) (w : World) : Calls Try.prog 16 #[.int .i64 e, .int .i64 o] w fun en w' => en = .returned (.int .i64 (f2 e o)) ∧ Mod [] w w' := by
  unfold f2 badO
  by_cases h0 : e = 0
  · subst h0
    rcases show o < 1 ∨ (1 ≤ o ∧ 64 < o) ∨ (1 ≤ o ∧ o ≤ 64) by omega with c1 | ⟨c1, c2⟩ | ⟨c1, c2⟩
    · rw [if_pos ⟨rfl, by omega⟩]
      go_enter Try.func16, Try.ntmps16
      go_wp2_with fail
      go_ret
      exact ⟨rfl, Mod.refl _ _⟩
    · rw [if_pos ⟨rfl, by omega⟩]
      go_enter Try.func16, Try.ntmps16
      go_wp2_with fail
      go_ret
      exact ⟨rfl, Mod.refl _ _⟩
    · rw [if_neg (by omega)]
      go_enter Try.func16, Try.ntmps16
      go_wp2_with fail
      go_ret
      exact ⟨rfl, Mod.refl _ _⟩
  · rw [if_neg (fun h => h0 h.1)]
    have h1 : (e == 0) = false := by simp only [beq_eq_false_iff_ne]; omega
    go_enter Try.func16, Try.ntmps16
    go_wp2_with fail
    go_ret
    exact ⟨rfl, Mod.refl _ _⟩
theorem resE_give (x : TS) (h o k : Int) : resE (giveT x h o) k = resE x k := by
  unfold giveT
  by_cases h0 : resE x h = 0 ∧ ¬ badO o
  · rw [if_pos h0]
    unfold resE
    simp only
    have e : (entN (x.E.set (hSlot h).toNat { entN x.E (hSlot h).toNat with owner := o }) (hSlot k).toNat).tag = (entN x.E (hSlot k).toNat).tag := by
      by_cases hl : (hSlot h).toNat < x.E.length
      · rw [entN_set hl]
        split
        · rename_i e; rw [e]
        · rfl
      · rw [List.set_eq_of_length_le (by omega)]
    rw [e]
  · rw [if_neg h0]
/-- Which error comes first. -/
def wantE (size j s g k : Int) : Int := if size ≤ s then 10 else if s ≠ j ∨ g ≠ 9 then 11 else if k ≠ 3 then 12 else 0
theorem order_res (size : Nat) (d s g k : Int) (h1 : 0 < size) (hs : 0 ≤ s ∧ s ≤ 7) (hg : 8 ≤ g ∧ g ≤ 10) (hk : 2 ≤ k ∧ k ≤ 4) :
    ∃ j : Nat, j < size ∧ issW 9 (start size) 1 3 d = .tuple #[.int .u64 (packI j 9 3), .int .i64 0] ∧ resE (issT 9 (start size) 1 3 0 0 d) (packI s g k) = wantE size j s g k := by
  have hI := TInv.start size 9
  have hp : 0 < (start size).g.F.length := by simp [start, upTo_length]; omega
  have hb : ¬ badOT 1 3 := by unfold badOT; omega
  have hok : issOk (start size) 1 3 := ⟨hb, hp⟩
  obtain ⟨_, hj, _, _, hjn, _⟩ := hI.g.pick (by omega) (by omega) hp d
  have hsl : ∀ m, m < size → slotN (start size).g.S m = (0, false) := fun m hm => by
    show slotN (fresh size) m = _
    rw [slotN_at (by rw [fresh_length]; exact hm)]; simp [fresh]
  refine ⟨pickS (start size).g.F d, hjn, ?_, ?_⟩
  · unfold issW issH issE
    rw [if_pos hok, if_neg hb, if_pos hp]
    unfold issEnt
    simp only
    rw [hsl _ hjn]
    rfl
  · obtain ⟨sn, rfl⟩ := Int.eq_ofNat_of_zero_le hs.1
    have hS : (issG 9 (start size).g d).S = (fresh size).set (pickS (start size).g.F d) (9, true) := by
      rw [issG_some hp, hsl _ hjn]; rfl
    have hE : (issEnt 9 (start size) 1 3 0 0 d).tag = 3 := rfl
    have hl : (fresh size).length = size := fresh_length size
    unfold issT
    rw [if_pos hok]
    unfold resE wantE
    simp only
    rw [hSlot_pack (by omega), hGen_pack (by omega) (by omega), hTag_pack (by omega) (by omega), hS, List.length_set, hl, Int.toNat_natCast, liveN_nat]
    generalize pickS (start size).g.F d = j at *
    by_cases c1 : (size : Int) ≤ sn
    · rw [if_pos c1, if_pos c1]
    · rw [if_neg c1, if_neg c1]
      have hsn : sn < size := by omega
      rw [slotN_set (by rw [hl]; exact hjn), entN_set (by simp [start]; exact hjn)]
      by_cases c2 : sn = j
      · subst c2
        rw [if_pos rfl, if_pos rfl, hE]
        by_cases c3 : g = 9
        · subst c3
          by_cases c4 : k = 3
          · subst c4; simp
          · have c5 : ¬ (3 = k) := by omega
            simp [c4, c5]
        · rw [if_pos (.inr (by simp only; omega)), if_pos (.inr c3)]
      · rw [if_neg c2]
        have e0 := hsl sn hsn
        have e0' : slotN (fresh size) sn = (0, false) := e0
        rw [e0', if_pos (.inl rfl), if_pos (.inl (by omega))]
set_option maxHeartbeats 4000000 in
set_option maxRecDepth 10000 in
theorem order_walk (n slot gen tag owner : Int) (n0 : 0 ≤ n) (n1 : n ≤ 255) (s0 : 0 ≤ slot) (s1 : slot ≤ 65535) (g0 : 0 ≤ gen) (g1 : gen ≤ 65535) (t0 : 0 ≤ tag) (t1 : tag ≤ 255) (o0 : 0 ≤ owner) (o1 : owner ≤ 255) (w : World) :
    Calls Try.prog 4 #[.int .u8 n, .int .u16 slot, .int .u16 gen, .int .u8 tag, .int .u8 owner] w fun e w' => e = .returned (.bool true) ∧ Mod [] w w' := by
  obtain ⟨size, hsz⟩ := Int.eq_ofNat_of_zero_le (show 0 ≤ 1 + n % 5 by omega)
  have hI0 := TInv.start size 9
  have hI1 := hI0.issue (by omega) (by omega) 1 3 0 0 owner
  obtain ⟨j, hj, hW, hR⟩ := order_res size owner (slot % 8) (8 + gen % 3) (2 + tag % 3) (by omega) (by omega) (by omega) (by omega)
  have hE := issE
  have hw0 : 0 ≤ packI (slot % 8) (8 + gen % 3) (2 + tag % 3) ∧ packI (slot % 8) (8 + gen % 3) (2 + tag % 3) ≤ 18446744073709551615 := by unfold packI; omega
  have b1 := bits_join .u64 64 (by decide) wraps_u64 56 ((2 + tag % 3) * 72057594037927936) ((8 + gen % 3) * 16777216) (by omega) (by omega) (by omega) (by omega) (by omega) (by omega)
  have b2 := bits_join .u64 64 (by decide) wraps_u64 24 ((2 + tag % 3) * 72057594037927936 + (8 + gen % 3) * 16777216) (slot % 8) (by omega) (by omega) (by omega) (by omega) (by omega) (by omega)
  have hp : (2 + tag % 3) * 72057594037927936 + (8 + gen % 3) * 16777216 + slot % 8 = packI (slot % 8) (8 + gen % 3) (2 + tag % 3) := rfl
  have hN := Lib.hid (tnew_ok size 9 (by omega) (by omega) (by omega) (Scene.empty w))
  have H1 := Lib.hid fun (w' : World) tb ev b pb sl (h : Scene [] w [tabC tb ev b pb sl 9 (start size)] w') => sc_tissue 0 h hI0 (by omega) rfl (by omega) (by omega) 1 3 0 0 owner (by omega) (by omega)
  have hSj := hSlot_pack (s := j) (g := 9) (t := 3) (by omega)
  have hrs := rslot_ok (packI j 9 3) (by unfold packI; omega) (by unfold packI; omega)
  rw [hSj] at hrs
  rw [hW] at H1
  have hI1H := Lib.hid hI1
  have hsn : (size : Int) ≤ 5 := by omega
  clear hE hW hSj hI0 hI1
  generalize packI (slot % 8) (8 + gen % 3) (2 + tag % 3) = wd at *
  generalize hx1 : issT 9 (start size) 1 3 0 0 owner = x1 at *
  generalize start size = x0 at *
  clear hx1
  obtain ⟨w0, w1'⟩ := hw0
  have hRH := Lib.hid hR
  have hrsH := Lib.hid fun w => hrs w
  obtain ⟨eh, eo, et, ef, el, hen⟩ : ∃ eh eo et ef el, resN x1 wd = ⟨eh, eo, et, ef, el⟩ := ⟨_, _, _, _, _, rfl⟩
  have hRV : resV x1 wd = .tuple #[.agg #[.int .u64 eh, .int .i64 eo, .int .i64 et, .int .i64 ef, .int .i64 el], .int .i64 (wantE size j (slot % 8) (8 + gen % 3) (2 + tag % 3))] := by
    unfold resV; rw [hen, hR]; rfl
  have hR3 := Lib.hid fun (w' : World) tb ev b pb sl (h : Scene [] w [tabC tb ev b pb sl 9 x1] w') => sc_resolve 0 h hI1H.out (by omega) rfl wd w0 w1'
  rw [hRV] at hR3
  have hgv := giveE_f2 x1 wd owner
  rw [hR] at hgv
  have hG3 := Lib.hid fun (w' : World) tb ev b pb sl (h : Scene [] w [tabC tb ev b pb sl 9 x1] w') => sc_tgive 0 h hI1H.out (by omega) rfl wd w0 w1' owner
  rw [hgv] at hG3
  have hdv := resE_give x1 wd owner wd
  rw [hR] at hdv
  have hD3 := Lib.hid fun (w' : World) tb ev b pb sl (h : Scene [] w [tabC tb ev b pb sl 9 (giveT x1 wd owner)] w') => sc_tdrop 0 h (hI1H.out.give wd owner) (by omega) rfl wd w0 w1'
  rw [hdv] at hD3
  generalize hwv : wantE size j (slot % 8) (8 + gen % 3) (2 + tag % 3) = v at *
  have hwvH := Lib.hid hwv
  unfold wantE at hwvH
  clear hR hrs hen hRV hgv hdv hwv hRH
  generalize giveT x1 wd owner = x2 at *
  go_enter Try.func4, Try.ntmps4
  go_wp2_with fail
  refine hN.out.mono ?_
  rintro e w1 ⟨tb, ev, b, pb, sl, rfl, hS1⟩
  have hS1 := Lib.hid hS1
  go_wp2_with fail
  refine (H1.out _ _ _ _ _ _ hS1.out).mono ?_
  rintro e w2 ⟨rfl, hS2⟩
  have hS2 := Lib.hid hS2
  clear hS1 hN H1
  go_wp2_with fail
  refine (hR3.out _ _ _ _ _ _ hS2.out).mono ?_
  rintro e w3 ⟨rfl, hS3⟩
  have hm3 := (Mod.refl [] w3).alloc (.cells #[.int .u64 eh, .int .i64 eo, .int .i64 et, .int .i64 ef, .int .i64 el] 39 (0, 0))
  have hS3 := Lib.hid (hS3.then hm3)
  clear hm3 hS2 hR3
  by_cases c1 : (size : Int) ≤ slot % 8
  · have hv := hwvH.out
    rw [if_pos c1] at hv
    subst hv
    clear hwvH
    go_wp2_with fail
    refine (tawake_ok _).mono ?_
    rintro e w5 ⟨rfl, hm5⟩
    have hS5 := Lib.hid ((hS3).out.then hm5)
    clear hS3 hm5
    go_wp2_with fail
    refine (hG3.out _ _ _ _ _ _ hS5.out).mono ?_
    rintro e w6 ⟨rfl, hS6⟩
    have hS6 := Lib.hid hS6
    clear hS5 hG3
    go_wp2_with fail
    refine (first2_ok _ owner _).mono ?_
    rintro e w7 ⟨rfl, hm7⟩
    have hS7 := Lib.hid (hS6.out.then hm7)
    clear hS6 hm7
    go_wp2_with fail
    refine (hD3.out _ _ _ _ _ _ hS7.out).mono ?_
    rintro e w8 ⟨rfl, hS8⟩
    have hm8 := Lib.hid hS8.mod
    clear hS7 hS8 hD3
    go_wp2_with fail
    go_ret
    exact ⟨rfl, hm8.out⟩
  · by_cases c2 : slot % 8 = j
    · by_cases c3 : 8 + gen % 3 = 9
      · by_cases c4 : 2 + tag % 3 = 3
        · have hv := hwvH.out
          rw [if_neg c1, if_neg (by omega), if_neg (by omega)] at hv
          subst hv
          clear hwvH
          go_wp2_with fail
          refine (hrsH.out _).mono ?_
          rintro e w4 ⟨rfl, hm4⟩
          have hS4 := Lib.hid (hS3.out.then hm4)
          clear hS3 hm4 hrsH
          go_wp2_with fail
          refine (tawake_ok _).mono ?_
          rintro e w5 ⟨rfl, hm5⟩
          have hS5 := Lib.hid ((hS4).out.then hm5)
          clear hS4 hm5
          go_wp2_with fail
          refine (hG3.out _ _ _ _ _ _ hS5.out).mono ?_
          rintro e w6 ⟨rfl, hS6⟩
          have hS6 := Lib.hid hS6
          clear hS5 hG3
          go_wp2_with fail
          refine (first2_ok _ owner _).mono ?_
          rintro e w7 ⟨rfl, hm7⟩
          have hS7 := Lib.hid (hS6.out.then hm7)
          clear hS6 hm7
          go_wp2_with fail
          refine (hD3.out _ _ _ _ _ _ hS7.out).mono ?_
          rintro e w8 ⟨rfl, hS8⟩
          have hm8 := Lib.hid hS8.mod
          clear hS7 hS8 hD3
          go_wp2_with fail
          go_ret
          exact ⟨rfl, hm8.out⟩
        · have hv := hwvH.out
          rw [if_neg c1, if_neg (by omega), if_pos c4] at hv
          subst hv
          clear hwvH
          go_wp2_with fail
          refine (hrsH.out _).mono ?_
          rintro e w4 ⟨rfl, hm4⟩
          have hS4 := Lib.hid (hS3.out.then hm4)
          clear hS3 hm4 hrsH
          go_wp2_with fail
          refine (tawake_ok _).mono ?_
          rintro e w5 ⟨rfl, hm5⟩
          have hS5 := Lib.hid ((hS4).out.then hm5)
          clear hS4 hm5
          go_wp2_with fail
          refine (hG3.out _ _ _ _ _ _ hS5.out).mono ?_
          rintro e w6 ⟨rfl, hS6⟩
          have hS6 := Lib.hid hS6
          clear hS5 hG3
          go_wp2_with fail
          refine (first2_ok _ owner _).mono ?_
          rintro e w7 ⟨rfl, hm7⟩
          have hS7 := Lib.hid (hS6.out.then hm7)
          clear hS6 hm7
          go_wp2_with fail
          refine (hD3.out _ _ _ _ _ _ hS7.out).mono ?_
          rintro e w8 ⟨rfl, hS8⟩
          have hm8 := Lib.hid hS8.mod
          clear hS7 hS8 hD3
          go_wp2_with fail
          go_ret
          exact ⟨rfl, hm8.out⟩
      · have hv := hwvH.out
        rw [if_neg c1, if_pos (.inr c3)] at hv
        subst hv
        clear hwvH
        go_wp2_with fail
        refine (hrsH.out _).mono ?_
        rintro e w4 ⟨rfl, hm4⟩
        have hS4 := Lib.hid (hS3.out.then hm4)
        clear hS3 hm4 hrsH
        go_wp2_with fail
        refine (tawake_ok _).mono ?_
        rintro e w5 ⟨rfl, hm5⟩
        have hS5 := Lib.hid ((hS4).out.then hm5)
        clear hS4 hm5
        go_wp2_with fail
        refine (hG3.out _ _ _ _ _ _ hS5.out).mono ?_
        rintro e w6 ⟨rfl, hS6⟩
        have hS6 := Lib.hid hS6
        clear hS5 hG3
        go_wp2_with fail
        refine (first2_ok _ owner _).mono ?_
        rintro e w7 ⟨rfl, hm7⟩
        have hS7 := Lib.hid (hS6.out.then hm7)
        clear hS6 hm7
        go_wp2_with fail
        refine (hD3.out _ _ _ _ _ _ hS7.out).mono ?_
        rintro e w8 ⟨rfl, hS8⟩
        have hm8 := Lib.hid hS8.mod
        clear hS7 hS8 hD3
        go_wp2_with fail
        go_ret
        exact ⟨rfl, hm8.out⟩
    · have hv := hwvH.out
      rw [if_neg c1, if_pos (.inl c2)] at hv
      subst hv
      clear hwvH
      go_wp2_with fail
      refine (hrsH.out _).mono ?_
      rintro e w4 ⟨rfl, hm4⟩
      have hS4 := Lib.hid (hS3.out.then hm4)
      clear hS3 hm4 hrsH
      go_wp2_with fail
      refine (tawake_ok _).mono ?_
      rintro e w5 ⟨rfl, hm5⟩
      have hS5 := Lib.hid ((hS4).out.then hm5)
      clear hS4 hm5
      go_wp2_with fail
      refine (hG3.out _ _ _ _ _ _ hS5.out).mono ?_
      rintro e w6 ⟨rfl, hS6⟩
      have hS6 := Lib.hid hS6
      clear hS5 hG3
      go_wp2_with fail
      refine (first2_ok _ owner _).mono ?_
      rintro e w7 ⟨rfl, hm7⟩
      have hS7 := Lib.hid (hS6.out.then hm7)
      clear hS6 hm7
      go_wp2_with fail
      refine (hD3.out _ _ _ _ _ _ hS7.out).mono ?_
      rintro e w8 ⟨rfl, hS8⟩
      have hm8 := Lib.hid hS8.mod
      clear hS7 hS8 hD3
      go_wp2_with fail
      go_ret
      exact ⟨rfl, hm8.out⟩
end Go.Proofs.Ytcdmapllligjhaa
