/- The handle table's iterator: what it hands to a loop. -/
import Derived.Test.YtcdmapllligjhaaTabA
import Derived.Test.YtcdmapllligjhaaGenP
namespace Go.Proofs.Ytcdmapllligjhaa
open Go Go.RowKit Go.Stg
attribute [local go_sem] Oper.semAt_some

theorem TAll_made (p : Option Addr) (w : World) : Calls Try.prog 48 #[.pointer p] w fun e w' => e = .returned (.func (.func 58) #[] #[.pointer (some ⟨w.heap.size, 0, none⟩)]) ∧ w' = w.alloc (.cells #[.pointer p] 23) := by
  go_enter Try.func48, Try.ntmps48
  go_wp2
  go_ret
  exact ⟨rfl, rfl⟩
/-- The live slots below k with their entries. -/
def liveP (x : TS) (k : Nat) : List (Int × Ent) := (List.range k).filterMap fun i => if (slotN x.g.S i).2 then some ((i : Int), entN x.E i) else none
theorem liveP_dead {x : TS} {k : Nat} (h : (slotN x.g.S k).2 = false) : liveP x (k + 1) = liveP x k := by simp [liveP, List.range_succ, h]
theorem liveP_live {x : TS} {k : Nat} (h : (slotN x.g.S k).2 = true) : liveP x (k + 1) = liveP x k ++ [((k : Int), entN x.E k)] := by simp [liveP, List.range_succ, h]
theorem liveP_len (x : TS) (k : Nat) : (liveP x k).length ≤ k := by
  have := List.length_filterMap_le (fun i => if (slotN x.g.S i).2 then some ((i : Int), entN x.E i) else none) (List.range k)
  simpa [liveP] using this
theorem liveP_snd (x : TS) : ∀ k, (liveP x k).map (·.2) = liveL x k
  | 0 => rfl
  | k + 1 => by
    cases h : (slotN x.g.S k).2 with
    | false => rw [liveP_dead h, liveL_dead h, liveP_snd x k]
    | true => rw [liveP_live h, liveL_live h, List.map_append, liveP_snd x k]; rfl
theorem apart_or {a b : Option Nat} (h : ∀ y, a = some y → b ≠ some y) : b = none ∨ b ≠ a := by
  cases hb : b with
  | none => exact .inl rfl
  | some y => exact .inr fun e => h y e.symm hb
def pslots (l : List (Int × Ent)) : List Value := l.map fun p => .int .i64 p.1
def pent (p : Int × Ent) : List Value := ent p.2
theorem pent_length (p : Int × Ent) : (pent p).length = 5 := rfl
set_option maxRecDepth 100000 in
set_option maxHeartbeats 8000000 in
theorem TAllC_in (n' : Nat) (hn' : 1 ≤ n') (l Bs n₀ : Nat) (Av : World → Nat → Prop) {n : Nat} {first : Int} {x : TS} {tb b pb : Nat} {ev sl : Value} {f : List Nat} (hI : TInv n first x) (hn : n ≤ 4096) (J Jx : List (Int × Ent) → World → Prop)
    (hY : ∀ pre p W, J pre W → pre.length < (liveP x n).length → YieldAt Fence.wide (n' - 1) Try.prog l #[.int .i64 p.1, entV p.2] W fun e W' =>
      (e = .returned (.bool true) ∧ J (pre ++ [p]) W' ∧ Keeps n₀ Av W W') ∨ (e = .returned (.bool false) ∧ Jx (pre ++ [p]) W'))
    (W : World) (hn₀ : n₀ ≤ W.heap.size) (hBs : W.heap[Bs]? = some (.cells #[.pointer (some ⟨tb, 0, none⟩)] 23 (0, 0))) (hT : (tabC tb ev b pb sl first x).on W f)
    (hAv : ∀ W2 k, RowKit.Below W.heap.size W W2 → W.heap.size ≤ k → Av W2 k) (hJ : AbidesFrom W.heap.size J) (h0 : J [] W) :
    CallsIn Fence.wide n' Try.prog 58 #[.func (.yield l) #[] #[], .pointer (some ⟨Bs, 0, none⟩)] W fun e W' => (∃ v, e = .returned v) ∧
      ((∃ ys, ys = liveP x n ∧ J ys W') ∨ (∃ pre, pre <+: liveP x n ∧ Jx pre W')) := by
  obtain ⟨E, hA, hH⟩ := hT
  have hS := Scene.start hH
  obtain ⟨psv, hG⟩ := sc_gen 2 hS rfl
  have hrow := hS.row 1 rfl
  have hblk := hS.block 0 rfl
  have hEl : E.length = n := by rw [hA.1]; exact hI.len
  have hSl := hI.g.len
  have hGH := Lib.hid hG
  have hrowH := Lib.hid hrow
  have hblkH := Lib.hid hblk
  have hBsH := Lib.hid hBs
  have hAH := Lib.hid hA.2
  have hYH := Lib.hid hY
  have hJH := Lib.hid hJ
  have h0H := Lib.hid h0
  have hAvH := Lib.hid hAv
  obtain ⟨i5, hi5, hz0, hz1, hz2⟩ := info_parts info_entry
  obtain ⟨i1, hi1, hy0, hy1, hy2⟩ := info_parts info_int
  have hcB := cells_of hBs
  clear hH hS hG hrow hblk hI hA hBs hY hJ h0 hAv
  refine callsIn_of_wp Try.func58 rfl trivial ?_ rfl
  simp only [Try.ntmps58, List.size_toArray, List.length_cons, List.length_nil, Nat.reduceAdd, Nat.reduceSub, Array.replicate_succ, Array.replicate_zero, List.push_toArray, List.append_toArray, List.nil_append, List.cons_append]
  gi_wp2_with fail
  refine ⟨trivial, (callsIn_wide.2 (tlive_ok hblkH.out)).mono ?_⟩
  rintro e w1 ⟨rfl, hm1⟩
  gi_wp2_with fail
  refine ⟨trivial, (callsIn_wide.2 (size_ok (hGH.out.mod hm1 (by simp)))).mono ?_⟩
  rw [hSl]
  rintro e w2 ⟨rfl, hm2⟩
  have hm2 := Lib.hid (hm1.nil_then hm2)
  clear hm1 hcB
  gi_wp2_with fail
  gi_loopw [13, 3, 4] (fun i sv lv wr => ∃ k : Nat, k ≤ n ∧ i = .int .i64 k ∧ Mod [] W wr ∧ wr.ownsRow W.heap.size 3 1 sv (liveP x k).length (pslots (liveP x k)) ∧ wr.ownsRow W.heap.size 39 5 lv (liveP x k).length (flat pent (liveP x k)) ∧ ∀ y, sv.ownBlock = some y → lv.ownBlock ≠ some y) (fun i _ _ _ => n - (intOf i).toNat)
  case atStart => exact ⟨0, by omega, rfl, hm2.out, World.ownsRow_nil _ _ _ _, World.ownsRow_nil _ _ _ _, by simp [Value.ownBlock]⟩
  case round =>
    obtain ⟨k, hk, rfl, hm, hsr, hlr, hap⟩ := hrel
    have hmH := Lib.hid hm
    have hsrH := Lib.hid hsr
    have hlrH := Lib.hid hlr
    have hapH := Lib.hid hap
    clear hsr hlr hap hm2
    by_cases hlt : k < n
    · have hcB := cells_of (hm.at hBsH.out (by simp))
      have hcT := cells_of (hm.at hblkH.out (by simp))
      clear hm
      gi_wp2_with fail
      have hlv := live_post (hGH.out.mod hmH.out (by simp)) (k : Int)
      rw [liveN_nat, Int.toNat_natCast] at hlv
      have hgE := hAH.out k
      have hpd := liveP_dead (x := x) (k := k)
      have hpl := liveP_live (x := x) (k := k)
      have hlk := liveP_len x k
      generalize hsl : slotN x.g.S k = sl0 at *
      rcases sl0 with ⟨ge, le⟩
      simp only at hlv hgE hpd hpl
      refine ⟨trivial, (callsIn_wide.2 hlv).mono ?_⟩
      rintro e w4 ⟨rfl, hm4⟩
      have hm5 := Lib.hid (hmH.out.nil_then hm4)
      have hsr5 := Lib.hid (row_mod hsrH.out hm4 (by simp))
      have hlr5 := Lib.hid (row_mod hlrH.out hm4 (by simp))
      clear hlv hsl hcB hcT hsrH hlrH hmH hm4
      cases le with
      | false =>
        have hq := hpd rfl
        have hsr6 := hsr5.out
        have hlr6 := hlr5.out
        rw [← hq] at hsr6 hlr6
        have hsr6 := Lib.hid hsr6
        have hlr6 := Lib.hid hlr6
        clear hq hpd hpl hgE
        gi_wp2_with fail
        go_roundw
        case rel => exact ⟨k + 1, by omega, by go_num, hm5.out, hsr6.out, hlr6.out, hapH.out⟩
        case measure => simp [intOf]; omega
      | true =>
        have hE := hgE rfl
        rw [entN_at (by omega)] at hE
        have hqH := Lib.hid (hpl rfl)
        have hrow1 := row_mod hrowH.out hm5.out (by simp)
        obtain ⟨g1, c1, rfl, _, _⟩ := row_pos hrow1 (by omega)
        obtain ⟨eh, eo, et, ef, el, hen⟩ : ∃ eh eo et ef el, entN x.E k = ⟨eh, eo, et, ef, el⟩ := ⟨_, _, _, _, _, rfl⟩
        have hcells : ∀ w', Mod [] W w' → w'.cell? ⟨g1, k * 5, none⟩ = some (.int .u64 eh) ∧ w'.cell? ⟨g1, k * 5 + 1, none⟩ = some (.int .i64 eo) ∧ w'.cell? ⟨g1, k * 5 + 2, none⟩ = some (.int .i64 et) ∧ w'.cell? ⟨g1, k * 5 + 3, none⟩ = some (.int .i64 ef) ∧ w'.cell? ⟨g1, k * 5 + 4, none⟩ = some (.int .i64 el) := fun w' hm' => by
          have hr := row_mod hrowH.out hm' (by simp)
          have r0 := row_cell ent_length hr (show k < E.length by omega) rfl (k := 0) (by omega)
          have r1 := row_cell ent_length hr (show k < E.length by omega) rfl (k := 1) (by omega)
          have r2 := row_cell ent_length hr (show k < E.length by omega) rfl (k := 2) (by omega)
          have r3 := row_cell ent_length hr (show k < E.length by omega) rfl (k := 3) (by omega)
          have r4 := row_cell ent_length hr (show k < E.length by omega) rfl (k := 4) (by omega)
          rw [hE, hen] at r0 r1 r2 r3 r4
          exact ⟨r0, r1, r2, r3, r4⟩
        have hcellsH := Lib.hid hcells
        rw [hen] at hqH
        have hb1 : (liveP x k).length + 1 ≤ maxLen := by unfold maxLen; omega
        have hb2 : ((liveP x k).length + 1) * 40 ≤ 140737488355328 := by omega
        have hb3 : ((liveP x k).length + 1) * 8 ≤ 140737488355328 := by omega
        have hw5 := hm5.out.size
        clear hpd hpl hgE hE hen hrow1 hcells
        gi_wp2_with (first | (gi_at_builtin; refine wpListIn_append_row _ rfl _ _ 67 rfl W.heap.size 3 i1 (.int .i64 0) 1 8 Try.underlying67 hi1 hy0 hy1 hy2 rfl (by decide) u3 (liveP x k).length _ rfl (hsr5.out.alloc _) ⟨w4.heap.size, 0, none⟩ 1 1 [.int .i64 k] rfl rfl (cells1 _ _ _) (by simp [Value.oneCell']) hb1 hb3 (by simp; omega) ?_; intro sv2 w6 hown1 hgrow1 hfr1; have hm6 := (hm5.out.alloc (.cells #[.int .i64 k] 3 (0, 0))).grown hgrow1 (fun y hy => .inr (hsr5.out.lt y hy).1); have hcB6 := cells_of (hm6.at hBsH.out (by simp)); have hcT6 := cells_of (hm6.at hblkH.out (by simp)); obtain ⟨q0, q1, q2, q3, q4⟩ := hcellsH.out w6 hm6; obtain ⟨g6, c6, rfl, _, _⟩ := row_pos hown1 (by omega); have hown1H := Lib.hid hown1; have hm6H := Lib.hid hm6; have hgrow1H := Lib.hid hgrow1; have hfr1H := Lib.hid hfr1; clear hown1 hm6 hgrow1 hfr1) | (gi_at_builtin; have hlr6 := (hlr5.out.alloc (.cells #[.int .i64 k] 3 (0, 0))).kept hgrow1H.out (apart_or hapH.out); refine wpListIn_append_row _ rfl _ _ 29 rfl W.heap.size 39 i5 (entV ent0) 5 40 Try.underlying29 hi5 hz0 hz1 hz2 rfl (by decide) u4 (liveP x k).length _ rfl (hlr6.alloc _) ⟨w6.heap.size, 0, none⟩ 1 1 (ent ⟨eh, eo, et, ef, el⟩) rfl rfl (cellsE _ _ _ _ rfl) (by simp [ent, Value.oneCell']) hb1 hb2 (by have := hm6H.out.size; simp; omega) ?_; intro lv2 w7 hown2 hgrow2 hfr2; obtain ⟨g7, c7, rfl, _, _⟩ := row_pos hown2 (by omega); have hlr6H := Lib.hid hlr6; have hown2H := Lib.hid hown2; have hgrow2H := Lib.hid hgrow2; have hfr2H := Lib.hid hfr2; clear hown2 hgrow2 hfr2 hlr6))
        go_roundw
        case rel =>
          have hs1 := hown1H.out.lt g6 rfl
          have hs7 := hown2H.out.lt g7 rfl
          have hs4 : ∀ y, u4.ownBlock = some y → y < w4.heap.size := fun y hy => (hlr5.out.lt y hy).2
          have hne : (Value.slice (some ⟨g6, 0, none⟩) ((liveP x k).length + 1) c6).ownBlock ≠ u4.ownBlock := fun e => by
            have e' : u4.ownBlock = some g6 := e.symm
            rcases hfr1H.out g6 rfl with h | h
            · exact hapH.out g6 h e'
            · have := hs4 g6 e'; simp at h; omega
          refine ⟨k + 1, by omega, by go_num, (hm6H.out.alloc _).grown hgrow2H.out (fun y hy => .inr (hlr6H.out.lt y hy).1), ?_, ?_, fun y hy e => ?_⟩
          · rw [hqH.out, List.length_append]
            unfold pslots
            rw [List.map_append]
            exact (hown1H.out.alloc _).kept hgrow2H.out (.inr hne)
          · rw [hqH.out, List.length_append, flat_append, flat_one]
            exact hown2H.out
          · simp [Value.ownBlock] at hy e
            subst hy
            subst e
            rcases hfr2H.out g7 rfl with h | h
            · exact hne h.symm
            · simp at h; omega
        case measure => simp [intOf]; omega
    · obtain rfl : k = n := by omega
      have hb := hm.below
      have hJ1 : J [] wr := hJH.out _ _ _ none h0H.out ⟨hb.os, hb.tape, hb.output, hb.size, fun k hk _ => hb.block k hk⟩ (by simp)
      have hav1 : ∀ g, u3.ownBlock = some g → n₀ ≤ g ∧ Av wr g := fun g hg => ⟨Nat.le_trans hn₀ (hsrH.out.lt g hg).1, hAvH.out wr g hb (hsrH.out.lt g hg).1⟩
      have hav2 : ∀ g, u4.ownBlock = some g → n₀ ≤ g ∧ Av wr g := fun g hg => ⟨Nat.le_trans hn₀ (hlrH.out.lt g hg).1, hAvH.out wr g hb (hlrH.out.lt g hg).1⟩
      have hpn := liveP_len x k
      have hln := fun ty w' => row_len (ty := ty) Try.underlying67 hsrH.out w'
      generalize hP : liveP x k = P at *
      have hPH := Lib.hid hP
      clear hP
      clear hb hm
      gi_wp2_with fail
      gi_loopw [43] (fun i wr2 => ∃ q : Nat, q ≤ P.length ∧ i = .int .i64 q ∧ J (P.take q) wr2 ∧ wr2.ownsRow W.heap.size 3 1 u3 P.length (pslots P) ∧ wr2.ownsRow W.heap.size 39 5 u4 P.length (flat pent P) ∧ (∀ g, u3.ownBlock = some g → n₀ ≤ g ∧ Av wr2 g) ∧ ∀ g, u4.ownBlock = some g → n₀ ≤ g ∧ Av wr2 g) (fun i _ => P.length - (intOf i).toNat)
      case atStart => exact ⟨0, Nat.zero_le _, rfl, hJ1, hsrH.out, hlrH.out, hav1, hav2⟩
      case round =>
        obtain ⟨q, hq, rfl, hJs, hr1, hr2, ha1, ha2⟩ := hrel
        clear hsrH hlrH hJ1 hav1 hav2 hmH hapH
        by_cases hltq : q < P.length
        · obtain ⟨g1, c1, rfl, _, _⟩ := row_pos hr1 (by omega)
          obtain ⟨g2, c2, rfl, _, _⟩ := row_pos hr2 (by omega)
          have hc := hr1.cellAt q (by omega)
          unfold pslots at hc
          rw [List.getElem?_map, List.getElem?_eq_getElem hltq] at hc
          simp only [Option.map_some] at hc
          have r0 := row_cell pent_length hr2 hltq rfl (k := 0) (by omega)
          have r1 := row_cell pent_length hr2 hltq rfl (k := 1) (by omega)
          have r2 := row_cell pent_length hr2 hltq rfl (k := 2) (by omega)
          have r3 := row_cell pent_length hr2 hltq rfl (k := 3) (by omega)
          have r4 := row_cell pent_length hr2 hltq rfl (k := 4) (by omega)
          have htk : P.take q ++ [P[q]] = P.take (q + 1) := by rw [List.take_add_one, List.getElem?_eq_getElem hltq]; rfl
          obtain ⟨fn, tmps, assign, body, hy, hR⟩ := hYH.out _ P[q] wr hJs (by rw [List.length_take]; omega)
          rw [htk] at hR
          have hr1H := Lib.hid hr1
          have hr2H := Lib.hid hr2
          have ha1H := Lib.hid ha1
          have ha2H := Lib.hid ha2
          clear htk hr1 hr2 ha1 ha2 hJs
          generalize P[q] = p at *
          rcases p with ⟨ps, eh, eo, et, ef, el⟩
          simp only [pent, ent, List.getElem?_cons_zero, List.getElem?_cons_succ, Nat.add_zero] at hc r0 r1 r2 r3 r4
          unfold entV at hy
          simp only at hy
          clear hYH
          gi_wp2_with fail
          refine hR.mono ?_
          rintro e W3 (⟨rfl, hJ3, hk3⟩ | ⟨rfl, hJx3⟩)
          · clear hc r0 r1 r2 r3 r4
            have hJ3 := Lib.hid hJ3
            gi_wp2_with fail
            go_roundw
            case rel =>
              have keep : ∀ {e : TypeId} {sz : Nat} {xs : List Value} {g c : Nat}, wr.ownsRow W.heap.size e sz (.slice (some ⟨g, 0, none⟩) P.length c) P.length xs → n₀ ≤ g → Av wr g → W3.ownsRow W.heap.size e sz (.slice (some ⟨g, 0, none⟩) P.length c) P.length xs ∧ Av W3 g := fun {e sz xs g c} hr h1 h2 => by
                refine ⟨row_same hr (fun g' cs fr hg hb => ?_), ?_⟩
                · have hk' : some g = some g' := hg
                  obtain rfl := Option.some.inj hk'
                  exact (hk3.2 g cs _ fr h1 h2 hb).1
                · rcases hr.2 with ⟨h, _⟩ | ⟨g2, cap2, cur, h, h3, h4, _⟩
                  · simp at h
                  · simp at h
                    obtain ⟨rfl, rfl⟩ := h
                    exact (hk3.2 g _ _ _ h1 h2 h4).2
              obtain ⟨k1, k2⟩ := keep hr1H.out (ha1H.out g1 rfl).1 (ha1H.out g1 rfl).2
              obtain ⟨k3, k4⟩ := keep hr2H.out (ha2H.out g2 rfl).1 (ha2H.out g2 rfl).2
              refine ⟨q + 1, by omega, by go_num, hJ3.out, k1, k3, fun g hg => ?_, fun g hg => ?_⟩
              · have hk' : some g1 = some g := hg
                obtain rfl := Option.some.inj hk'
                exact ⟨(ha1H.out g1 rfl).1, k2⟩
              · have hk' : some g2 = some g := hg
                obtain rfl := Option.some.inj hk'
                exact ⟨(ha2H.out g2 rfl).1, k4⟩
            case measure => simp [intOf]; omega
          · clear hc r0 r1 r2 r3 r4
            gi_wp2_with fail
            refine bodyPost_ret (results_none rfl _ _ _) rfl ?_
            exact ⟨⟨_, rfl⟩, .inr ⟨_, by rw [hPH.out]; exact List.take_prefix (q + 1) P, hJx3⟩⟩
        · obtain rfl : q = P.length := by omega
          gi_wp2_with fail
          go_end0
          exact ⟨⟨_, rfl⟩, .inl ⟨P, hPH.out.symm, by simpa using hJs⟩⟩
/-- A loop over what a table's All returned. -/
theorem TAll_stops (n' : Nat) (hn' : 1 ≤ n') (Bs n₀ : Nat) (Av : World → Nat → Prop) {n : Nat} {first : Int} {x : TS} {tb b pb : Nat} {ev sl : Value} {f : List Nat} (hI : TInv n first x) (hn : n ≤ 4096) (w : World) (hBs : w.heap[Bs]? = some (.cells #[.pointer (some ⟨tb, 0, none⟩)] 23 (0, 0))) (hn₀ : n₀ ≤ w.heap.size) (hT : (tabC tb ev b pb sl first x).on w f)
    (hAv : ∀ W W2 k, RowKit.Below w.heap.size w W → RowKit.Below W.heap.size W W2 → W.heap.size ≤ k → Av W2 k) :
    SeqStopsK Fence.wide n' Try.prog 58 #[.pointer (some ⟨Bs, 0, none⟩)] (fun p : Int × Ent => #[Value.int .i64 p.1, entV p.2]) (Keeps n₀ Av) (fun ys => ys = liveP x n) (fun pre => pre <+: liveP x n) (liveP x n).length w := fun l J Jx W hW hJ _ hY h0 =>
  TAllC_in n' hn' l Bs n₀ Av hI hn J Jx hY W (Nat.le_trans hn₀ hW.size) ((Mod.of_below hW).at hBs (by simp)) ((tabC tb ev b pb sl first x).keep hT (Mod.of_below hW) (by simp)) (fun W2 k h1 h2 => hAv W W2 k hW h1 h2) hJ h0
end Go.Proofs.Ytcdmapllligjhaa
