/- HandletabLive: the walk of the law. -/
import Derived.Test.YtcdmapllligjhaaTabLiveC
namespace Go.Proofs.Ytcdmapllligjhaa
open Go Go.RowKit Go.Stg

set_option maxHeartbeats 40000000 in
set_option maxRecDepth 20000 in
theorem live_walk (nu f : Int) (sv : Value) (xs : List X4) (n0 : 0 ≤ nu) (n1 : nu ≤ 255) (f0 : 0 ≤ f) (f1 : f ≤ 255) (w : World) (hs : Steps4At w sv xs) :
    Calls Try.prog 3 #[.int .u8 nu, .int .u8 f, sv] w fun e w' => e = .returned (.bool true) ∧ Mod [] w w' := by
  have hln := fun ty w => hs.len ty w
  have hlm := hs.small
  obtain ⟨n, hn⟩ := Int.eq_ofNat_of_zero_le (show 0 ≤ nu % 7 by omega)
  have hn7 : n ≤ 6 := by omega
  obtain ⟨hf1, hf2⟩ := firstT_in f
  have hsH := Lib.hid hs
  have hF := Lib.hid fun w => firstT_any f f0 f1 w
  generalize firstT f = first at *
  have hI0 := Lib.hid (LInv.start n first)
  obtain ⟨i1, hi1, hy0, hy1, hy2⟩ := info_parts info_handle
  obtain ⟨i5, hi5, hz0, hz1, hz2⟩ := info_parts info_entry
  clear hs
  go_enter Try.func3, Try.ntmps3
  go_wp2_with fail
  refine (hF.out _).mono ?_
  rintro e w1 ⟨rfl, hm1⟩
  have hE1 := Lib.hid ((Scene.empty w).then hm1)
  clear hF hm1
  go_wp2_with fail
  refine (tnew_ok n first (by omega) hf1 hf2 hE1.out).mono ?_
  rintro e w2 ⟨tb, tv, b, pb, sl, rfl, hS2⟩
  have hS2 : Scene [] w (lparts tb tv b pb sl first (start n) (.slice none 0 0) (.slice none 0 0) [] []) w2 := by
    obtain ⟨h1, fp, ⟨f, g, ha, hg, hfg, e⟩, h3⟩ := hS2
    have hg' : g = [] := hg
    subst hg'
    rw [List.append_nil] at e
    subst e
    exact ⟨h1, _, ⟨_, [], ha, ⟨[], [], ⟨World.ownsRow_nil _ _ _ _, rfl⟩, ⟨[], [], ⟨World.ownsRow_nil _ _ _ _, rfl⟩, rfl, by simp, rfl⟩, by simp, rfl⟩, by simp, by simp⟩, h3⟩
  have hS2 := Lib.hid hS2
  clear hE1
  go_wp2_with fail
  go_loopw [11, 9, 10] (fun i hv lv wr => ∃ k : Nat, k ≤ xs.length ∧ k ≤ 40 ∧ i = .int .i64 k ∧ ∃ x hs es, Scene [] w (lparts tb tv b pb sl first x hv lv hs es) wr ∧ LInv n first x hs es ∧ hs.length ≤ k ∧ es.length ≤ k) (fun i _ _ _ => 40 - (intOf i).toNat)
  case atStart => exact ⟨0, by omega, by omega, rfl, _, [], [], hS2.out, hI0.out, by simp, by simp⟩
  case round =>
    obtain ⟨k, hk1, hk2, rfl, x, hs, es, hSx, hL, hlh, hle⟩ := hrel
    clear hS2 hI0
    by_cases hlt : k < xs.length
    · by_cases hlt2 : k < 40
      · have hLH := Lib.hid hL
        have hSH := Lib.hid hSx
        have hsr := hsH.out.mod hSx.mod
        clear hL hSx
        have hk40 : decide ((k : Int) < 40) = true := by rw [decide_eq_true_eq]; omega
        rcases hsr with ⟨_, rfl⟩ | ⟨sb, so, cap, rfl, h2, h3, h4⟩
        · simp at hlt
        · obtain ⟨⟨⟨a0, a1⟩, ⟨b0, b1⟩, ⟨e0, e1⟩, d0, d1⟩, c0, c1, c2, c3⟩ := h4 k hlt
          clear h4 hsH
          generalize hx0 : xs[k] = x0 at *
          clear hx0
          rcases x0 with ⟨xa, xb, xc, xd⟩
          simp only at a0 a1 b0 b1 e0 e1 d0 d1 c0 c1 c2 c3
          by_cases h3 : xa % 3 > 0
          · have hS3 := (hSH.out.alloc (.cells #[.int .u16 xa, .int .u16 xb, .int .u16 xc, .int .u16 xd] 31 (0, 0))).alloc (.cells #[.int .i64 k, .int .i64 xb] 33 (0, 0))
            have hsz : (wr.alloc (.cells #[.int .u16 xa, .int .u16 xb, .int .u16 xc, .int .u16 xd] 31 (0, 0))).heap.size = wr.heap.size + 1 := by simp
            rw [hsz] at hS3
            have hS3 := Lib.hid hS3
            have hb : ¬ badOT (1 + xb % 4) (1 + xc % 4) := by unfold badOT; omega
            by_cases hp : 0 < x.g.F.length
            · have hw : issW first x (1 + xb % 4) (1 + xc % 4) xd = .tuple #[.int .u64 (issEnt first x (1 + xb % 4) (1 + xc % 4) k xb xd).h, .int .i64 0] := by
                unfold issW issH issE
                rw [if_pos ⟨hb, hp⟩, if_neg hb, if_pos hp]; rfl
              obtain ⟨hnew, hL2⟩ := hLH.out.issue (by omega) hf1 hf2 hp (1 + xb % 4) (1 + xc % 4) k xb xd hb
              have hI3 := sc_tissue 2 hS3.out hLH.out.t (by omega) rfl hf1 hf2 (1 + xb % 4) (1 + xc % 4) k xb xd d0 (by omega)
              rw [hw] at hI3
              obtain ⟨hh0, hh1⟩ := hL2.bound (by omega) (k := (issEnt first x (1 + xb % 4) (1 + xc % 4) k xb xd).h) (by simp)
              have hent : issEnt first x (1 + xb % 4) (1 + xc % 4) k xb xd = ⟨(issEnt first x (1 + xb % 4) (1 + xc % 4) k xb xd).h, 1 + xb % 4, 1 + xc % 4, k, xb⟩ := rfl
              rw [hent] at hL2
              have hI3 := Lib.hid hI3
              have hL2H := Lib.hid hL2
              clear hL2 hw hent hsz
              generalize (issEnt first x (1 + xb % 4) (1 + xc % 4) k xb xd).h = hd at *
              generalize issT first x (1 + xb % 4) (1 + xc % 4) k xb xd = x1 at *
              go_wp2_with fail
              refine hI3.out.mono ?_
              rintro e w3 ⟨rfl, hS4⟩
              have hcq := cells_of (hS4.block 1 rfl)
              have hcq1 := cells_of (hS4.block 0 rfl)
              have hS4 := Lib.hid hS4
              clear hS3 hI3 c0 c1 c2 c3
              have hlnE := fun ty w' => row_len (ty := ty) Try.underlying28 (hS4.out.row 3 rfl) w'
              go_wp2_with fail
              go_loopw [83] (fun i wr => ∃ p : Nat, p ≤ hs.length ∧ i = .int .i64 p ∧ Mod [] w3 wr) (fun i _ => hs.length - (intOf i).toNat)
              case atStart => exact ⟨0, by omega, rfl, Mod.refl _ _⟩
              case round =>
                obtain ⟨p, hp1, rfl, hm5⟩ := hrel
                by_cases hlt5 : p < hs.length
                · have hrow := (hS4.out.then hm5).row 3 rfl
                  obtain ⟨gh, ch, rfl, _, _⟩ := row_pos hrow (by omega)
                  have hc5 := hrow.cellAt p (by omega)
                  unfold u64s at hc5
                  rw [List.getElem?_map, List.getElem?_eq_getElem hlt5] at hc5
                  simp only [Option.map_some] at hc5
                  have hne5 : hs[p] ≠ hd := fun e => hnew (by rw [← e]; exact List.getElem_mem hlt5)
                  clear hrow hcq hcq1
                  generalize hs[p] = hk5 at *
                  go_wp2_with fail
                  go_roundw
                  case rel => exact ⟨p + 1, by omega, by go_num, hm5⟩
                  case measure => simp [intOf]; omega
                · have hS5 := Lib.hid (hS4.out.then hm5)
                  have hcq := cells_of (hS5.out.block 1 rfl)
                  have hcq1 := cells_of (hS5.out.block 0 rfl)
                  have hA1 := Lib.hid (hS5.out.alloc (.cells #[.int .u64 hd] 35 (0, 0)))
                  have hb1 : hs.length + 1 ≤ maxLen := by unfold maxLen; omega
                  have hb2 : es.length + 1 ≤ maxLen := by unfold maxLen; omega
                  have hb3 : (hs.length + 1) * 8 ≤ 140737488355328 := by omega
                  have hb4 : (es.length + 1) * 40 ≤ 140737488355328 := by omega
                  clear hS4 hm5 hnew
                  go_wp2_with (first | (at_builtin; refine wpList_append_row _ rfl _ _ 28 rfl 35 i1 (.int .u64 0) 1 8 Try.underlying28 hi1 hy0 hy1 hy2 rfl (by decide) u9 hs.length _ rfl (hA1.out.row 4 rfl) ⟨wr.heap.size, 0, none⟩ 1 1 [.int .u64 hd] rfl rfl (cells1 _ _ _) (by simp [Value.oneCell']) hb1 hb3 ?_; intro hv2 w6 hown1 hgrow1 hfr1; obtain ⟨g6, c6, rfl, _, _⟩ := row_pos hown1 (by omega); have hS6 := Lib.hid ((hA1.out.grown 4 rfl hown1 hgrow1 hfr1).erase 0); have hcq6 := cells_of (hS6.out.block 1 rfl); have hcq7 := cells_of (hS6.out.block 0 rfl); clear hown1 hgrow1 hfr1) | (at_builtin; have hA2 := hS6.out.alloc (.cells #[.int .u64 hd, .int .i64 (1 + xb % 4), .int .i64 (1 + xc % 4), .int .i64 k, .int .i64 xb] 39 (0, 0)); refine wpList_append_row _ rfl _ _ 29 rfl 39 i5 (entV ent0) 5 40 Try.underlying29 hi5 hz0 hz1 hz2 rfl (by decide) u10 es.length _ rfl (hA2.row 5 rfl) ⟨w6.heap.size, 0, none⟩ 1 1 (ent ⟨hd, 1 + xb % 4, 1 + xc % 4, k, xb⟩) rfl rfl (cellsL _ _ _ _ rfl) (by simp [ent, Value.oneCell']) hb2 hb4 ?_; intro lv2 w7 hown2 hgrow2 hfr2; obtain ⟨g7, c7, rfl, _, _⟩ := row_pos hown2 (by omega); have hS7 := ((hA2.grown 5 rfl hown2 hgrow2 hfr2).erase 0); have hSc : Scene [] w (lparts tb tv b pb sl first x1 (.slice (some ⟨g6, 0, none⟩) (hs.length + 1) c6) (.slice (some ⟨g7, 0, none⟩) (es.length + 1) c7) (hs ++ [hd]) (es ++ [⟨hd, 1 + xb % 4, 1 + xc % 4, k, xb⟩])) w7 := (by unfold lparts u64s; rw [List.map_append, flat_append, flat_one, List.length_append, List.length_append]; exact (hS7.erase 0).erase 0); have hSc := Lib.hid hSc; clear hown2 hgrow2 hfr2 hS7))
                  have hl3 : ((hs.length : Int) + 1) = ((hs ++ [hd]).length : Int) := by simp
                  rw [hl3]
                  clear hl3
                  refine live_checks hn7 hf1 (by simp; omega) (by simp; omega) hL2H.out hSc.out _ _ _ _ _ _ _ _ _ _ _ _ _ _ _ _ _ _ _ _ _ _ _ _ _ _ _ _ _ _ _ _ _ _ _ _ _ _ _ _ _ _ _ _ _ _ _ _ _ _ _ _ _ _ _ _ _ _ _ _ _ _ _ _ _ _ _ _ _ _ _ _ _ _ _ _ _ _ _ _ _ _ _ _ _ _ _ _ _ _ _ _ _ _ _ _ _ _ _ _ _ _ _ _ _ _ _ _ _ _ _ _ _ _ _ _ _ _ _ _ _ _ _ _ _ _ _ _ _ _ _ _ _ _ _ _ _ _ _ _ _ _ _ _ _ _ _ _ _ _ _ _ _ _ _ _ _ _ _ _ _ _ _ _ _ _ _ _ _ _ _ _ _ _ _ _ _ _ _ _ _ _ _ _ _ _ _ _ _ _ _ _ _ _ _ _ _ _ _ _ _ _ _ _ _ _ _ _ _ ?_
                  intro w9 z6 z21 z22 z23 z24 z25 z159 z160 z161 z162 z163 z164 z165 z166 z167 z168 z169 z170 z171 z172 z173 z174 z175 z176 z177 z178 z179 z180 z181 z182 z183 z184 z185 z186 z187 z188 z189 z190 z191 z192 z193 z194 z195 z196 z197 z198 z199 z200 z201 z202 z203 z204 z205 z206 z207 z208 z209 z210 z211 z212 hSf
                  have hSf := Lib.hid hSf
                  go_wp2_with fail
                  go_roundw
                  case rel => exact ⟨k + 1, by omega, by omega, by go_num, x1, hs ++ [hd], es ++ [⟨hd, 1 + xb % 4, 1 + xc % 4, k, xb⟩], hSf.out, hL2H.out, by first | omega | (simp; omega), by first | omega | (simp; omega)⟩
                  case measure => simp [intOf]; omega
            · have hw : issW first x (1 + xb % 4) (1 + xc % 4) xd = .tuple #[.int .u64 0, .int .i64 17] := by
                unfold issW issH issE
                rw [if_neg (fun h => hp h.2), if_neg hb, if_neg hp]
              have hx1 : issT first x (1 + xb % 4) (1 + xc % 4) k xb xd = x := if_neg (fun h => hp h.2)
              have hI3 := sc_tissue 2 hS3.out hLH.out.t (by omega) rfl hf1 hf2 (1 + xb % 4) (1 + xc % 4) k xb xd d0 (by omega)
              rw [hw, hx1] at hI3
              have hI3 := Lib.hid hI3
              clear hw hx1 hsz
              go_wp2_with fail
              refine hI3.out.mono ?_
              rintro e w3 ⟨rfl, hS4⟩
              have hS4 := Lib.hid ((hS4.erase 0).erase 0)
              clear hS3 hI3 c0 c1 c2 c3
              go_wp2_with fail
              go_roundw
              case rel => exact ⟨k + 1, by omega, by omega, by go_num, x, hs, es, hS4.out, hLH.out, by omega, by omega⟩
              case measure => simp [intOf]; omega
          · have hS3 := hSH.out.alloc (.cells #[.int .u16 xa, .int .u16 xb, .int .u16 xc, .int .u16 xd] 31 (0, 0))
            have hcq := cells_of (hS3.block 0 rfl)
            have hlnE := fun ty w' => row_len (ty := ty) Try.underlying28 (hS3.row 2 rfl) w'
            have hS3 := Lib.hid hS3
            by_cases hz : hs.length = 0
            · have hz1 : hs = [] := List.length_eq_zero_iff.1 hz
              subst hz1
              go_wp2_with fail
              go_loopw [161] (fun i wr' => i = .int .i64 0 ∧ Scene [] w (lparts tb tv b pb sl first x u9 u10 [] es) wr') (fun _ _ => 0)
              case atStart => exact ⟨rfl, hS3.out.erase 0⟩
              case round =>
                obtain ⟨rfl, hS4⟩ := hrel
                have hS4 := Lib.hid hS4
                go_wp2_with fail
                go_roundw
                case rel => exact ⟨k + 1, by omega, by omega, by go_num, x, [], es, hS4.out, hLH.out, by simp, by omega⟩
                case measure => simp [intOf]; omega
            · have hzp : 0 < hs.length := by omega
              clear hz
              have hrow := hS3.out.row 2 rfl
              obtain ⟨g9, c9, rfl, _, _⟩ := row_pos hrow (by omega)
              obtain ⟨m, hm⟩ := Int.eq_ofNat_of_zero_le (Int.emod_nonneg xb (show (hs.length : Int) ≠ 0 by omega))
              have hml : m < hs.length := by have := Int.emod_lt_of_pos xb (show (0 : Int) < hs.length by omega); omega
              have hmem := List.getElem_mem hml
              obtain ⟨q0, q1⟩ := hLH.out.bound (by omega) hmem
              have hres := hLH.out.res (by omega) (by omega) hmem
              have hc8 := hrow.cellAt m (by omega)
              unfold u64s at hc8
              rw [List.getElem?_map, List.getElem?_eq_getElem hml] at hc8
              simp only [Option.map_some] at hc8
              generalize hs[m] = hk at *
              have hDr := sc_tdrop 1 hS3.out hLH.out.t (by omega) rfl hk q0 q1
              rcases hres with ⟨e0, hee, hek, hr0, hrn⟩ | ⟨hno, hr11⟩
              · obtain ⟨i2, hi2, he2⟩ := List.getElem_of_mem hee
                obtain ⟨_, hL2⟩ := hLH.out.drop (by omega) (by omega) hmem i2 hi2 (by rw [he2]; exact hek)
                rw [hr0] at hDr
                have hDr := Lib.hid hDr
                have hL2H := Lib.hid hL2
                have hiff : ∀ r (hr : r < es.length), es[r].h = hk ↔ r = i2 := fun r hr => ⟨fun e => hLH.out.inj r hr i2 hi2 (by rw [e, he2, hek]), fun e => by subst e; rw [he2, hek]⟩
                have hiffH := Lib.hid hiff
                have hee2 : 0 < es.length := by omega
                clear hL2 hr0 hrn hee he2 hek hrow hmem hiff
                generalize dropT x hk = x1 at *
                go_wp2_with fail
                refine hDr.out.mono ?_
                rintro e w3 ⟨rfl, hS4⟩
                have hS4 := Lib.hid (hS4.erase 0)
                have hlnL := fun ty w' => row_len (ty := ty) Try.underlying29 (hS4.out.row 2 rfl) w'
                clear hS3 hDr hcq hc8
                go_wp2_with fail
                go_loopw [130, 19] (fun i kt wr => ∃ r : Nat, r ≤ es.length ∧ i = .int .i64 r ∧ kt = .int .i64 (if i2 < r then (i2 : Int) else -1) ∧ Mod [] w3 wr) (fun i _ _ => es.length - (intOf i).toNat)
                case atStart => exact ⟨0, by omega, rfl, by simp, Mod.refl _ _⟩
                case round =>
                  obtain ⟨r, hr1, rfl, rfl, hm5⟩ := hrel
                  by_cases hlt5 : r < es.length
                  · have hrow5 := (hS4.out.then hm5).row 2 rfl
                    obtain ⟨g5, c5, rfl, _, _⟩ := row_pos hrow5 (by omega)
                    have r0 := row_cell ent_length hrow5 hlt5 rfl (k := 0) (by omega)
                    have hI := hiffH.out r hlt5
                    simp only [ent, List.getElem?_cons_zero, Nat.add_zero] at r0
                    generalize es[r].h = eh at *
                    clear hrow5
                    by_cases hri : r = i2
                    · have he := hI.2 hri
                      have s0 : (eh == hk) = true := by simp [he]
                      have hi3 : (if i2 < r + 1 then (i2 : Int) else -1) = r := by rw [if_pos (by omega)]; omega
                      subst he
                      generalize (if i2 < r then (i2 : Int) else -1) = q5 at *
                      have hi3H := Lib.hid hi3
                      clear hI hri hi3
                      go_wp2_with fail
                      go_roundw
                      case rel => exact ⟨r + 1, by omega, by go_num, by rw [hi3H.out], hm5⟩
                      case measure => simp [intOf]; omega
                    · have he : eh ≠ hk := fun e => hri (hI.1 e)
                      have s0 : (eh == hk) = false := by simp only [beq_eq_false_iff_ne]; exact he
                      have hi3 : (if i2 < r + 1 then (i2 : Int) else -1) = (if i2 < r then (i2 : Int) else -1) := by
                        by_cases h' : i2 < r
                        · rw [if_pos h', if_pos (by omega)]
                        · rw [if_neg h', if_neg (by omega)]
                      clear hI
                      generalize (if i2 < r then (i2 : Int) else -1) = q5 at *
                      go_wp2_with fail
                      go_roundw
                      case rel => exact ⟨r + 1, by omega, by go_num, by rw [hi3], hm5⟩
                      case measure => simp [intOf]; omega
                  · obtain rfl : r = es.length := by omega
                    rw [if_pos hi2]
                    have hS5 := Lib.hid (hS4.out.then hm5)
                    obtain ⟨g5, c5, rfl, _, _⟩ := row_pos (hS5.out.row 2 rfl) hee2
                    clear hS4 hm5
                    go_wp2_with fail
                    have hrow6 := hS5.out.row 2 rfl
                    have hcap : es.length ≤ c5 ∧ c5 ≤ maxLen := by
                      rcases row_cases hrow6 with ⟨h, _⟩ | ⟨_, _, h, _, _, h1, h2, _⟩
                      · simp at h
                      · simp at h; obtain ⟨_, rfl⟩ := h; exact ⟨h1, h2⟩
                    obtain ⟨hcap1, hcap2⟩ := hcap
                    have hrowH := Lib.hid hrow6
                    obtain ⟨A, hAdef⟩ : ∃ A : Addr, A = if c5 = i2 + 1 then ⟨g5, 0, none⟩ else ⟨g5, (i2 + 1) * 5, none⟩ := ⟨_, rfl⟩
                    have hA : ∀ w' : World, w'.ownsRow 0 39 5 (.slice (some ⟨g5, 0, none⟩) es.length c5) es.length (flat ent es) → ∀ j u, (flat ent (es.drop (i2 + 1)))[j]? = some u → w'.cell? (A.add j) = some u := fun w' hr6 => by
                      by_cases hc : c5 = i2 + 1
                      · intro j u hu
                        rw [List.drop_eq_nil_of_le (by omega)] at hu
                        simp [flat] at hu
                      · rw [if_neg hc] at hAdef
                        subst hAdef
                        exact part_cells hr6 (i2 + 1) (es.length - (i2 + 1)) (by omega) (by rw [List.take_of_length_le (by simp)])
                    clear hrow6
                    refine wp_region_pure (by kernel_rfl) (by kernel_rfl) ?_
                    refine stage_alloc (fun s => .slice (some ⟨s, 0, none⟩) 0 0) (.cells #[] 39 (0, 0)) (fun s w' => Mod [] wr w' ∧ w'.ownsRow 0 39 5 (.slice (some ⟨s, 0, none⟩) 0 0) 0 [] ∧ wr.heap.size ≤ s) (by intro s s' h; simpa using h) rfl rfl (fun w' hw => ?_) (fun w' hw => ?_) (fun s w' h => InGW.of h.1) (fun s => ?_)
                    · kernel_rfl
                    · exact ⟨hw.alloc _, row_base (World.ownsRow_made (base := 0) w' #[] 0 (Nat.zero_le _) (Nat.zero_le _) rfl) (Nat.zero_le _), hw.size⟩
                    simp only [Act.put, List.setIfInBounds_toArray, List.set_cons_succ, List.set_cons_zero]
                    refine stage_quiet 3 (by kernel_rfl) ?_
                    simp only [List.take_succ_cons, List.take_zero, List.drop_succ_cons, List.drop_zero]
                    repeat (go_big_quiet_step (fail))
                    refine wpQuiet_nil ?_
                    refine stage_any (fun v => ∃ a l c, v = .slice a l c) (fun v w' => Mod [] wr w' ∧ w'.ownsRow 0 39 5 v i2 (flat ent (es.take i2)) ∧ ∀ y, v.ownBlock = some y → wr.heap.size ≤ y) rfl rfl ⟨_, none, 0, 0, rfl⟩ (fun w' hw => ?_) (fun v w' h => InGW.of h.1) (fun v hv => ?_)
                    · obtain ⟨q1', q2', q3'⟩ := hw
                      have hr6 := row_mod hrowH.out q1' (by simp)
                      obtain ⟨v', w2, hr, h2, h3, h4⟩ := run_append_row (P := Try.prog) w' 29 29 39 i5 (entV ent0) 5 40 Try.underlying29 hi5 hz0 hz1 hz2 rfl (by decide) (.slice (some ⟨s, 0, none⟩) 0 0) 0 [] q2' ⟨g5, 0, none⟩ i2 c5 (flat ent (es.take i2)) (by rw [flat_length ent_length]; simp; omega) (part_cells hr6 0 i2 (by omega) (by simp)) (part_one _) (by unfold maxLen; omega) (by omega)
                      rw [Nat.zero_add, List.nil_append] at h2
                      have hfr : ∀ y, v'.ownBlock = some y → wr.heap.size ≤ y := fun y hy => by
                        rcases h4 y hy with h | h
                        · simp [Value.ownBlock] at h; omega
                        · exact Nat.le_trans q1'.size h
                      refine ⟨v', w2, exec_append _ _ 29 rfl rfl rfl hr, row_slice h2, q1'.grown h3 (fun y hy => .inr ?_), h2, hfr⟩
                      simp [Value.ownBlock] at hy; omega
                    obtain ⟨va, vl, vc, rfl⟩ := hv
                    simp only [Act.put, List.setIfInBounds_toArray, List.set_cons_succ, List.set_cons_zero]
                    refine stage_quiet 4 (by kernel_rfl) ?_
                    simp only [List.take_succ_cons, List.take_zero, List.drop_succ_cons, List.drop_zero]
                    repeat (go_big_quiet_step (fail))
                    refine wpQuiet_nil ?_
                    refine stage_any (fun v => ∃ a l c, v = .slice a l c) (fun v w' => Mod [] wr w' ∧ w'.ownsRow 0 39 5 v (es.eraseIdx i2).length (flat ent (es.eraseIdx i2)) ∧ ∀ y, v.ownBlock = some y → wr.heap.size ≤ y) rfl rfl ⟨_, none, 0, 0, rfl⟩ (fun w' hw => ?_) (fun v w' h => InGW.of h.1) (fun v hv => ?_)
                    · obtain ⟨q1', q2', q3'⟩ := hw
                      have hr6 := row_mod hrowH.out q1' (by simp)
                      obtain ⟨v', w2, hr, h2, h3, h4⟩ := run_append_row (P := Try.prog) w' 29 29 39 i5 (entV ent0) 5 40 Try.underlying29 hi5 hz0 hz1 hz2 rfl (by decide) (.slice va vl vc) i2 _ q2' A (es.length - (i2 + 1)) (c5 - (i2 + 1)) (flat ent (es.drop (i2 + 1))) (by rw [flat_length ent_length]; simp) (hA w' hr6) (part_one _) (by unfold maxLen; omega) (by omega)
                      rw [← flat_append, ← List.eraseIdx_eq_take_drop_succ] at h2
                      have hn2 : i2 + (es.length - (i2 + 1)) = (es.eraseIdx i2).length := by rw [List.length_eraseIdx_of_lt hi2]; omega
                      rw [hn2] at h2
                      have hfr : ∀ y, v'.ownBlock = some y → wr.heap.size ≤ y := fun y hy => by
                        rcases h4 y hy with h | h
                        · exact q3' y h
                        · exact Nat.le_trans q1'.size h
                      refine ⟨v', w2, ?_, row_slice h2, q1'.grown h3 (fun y hy => .inr (q3' y hy)), h2, hfr⟩
                      refine exec_append (u := .slice (some A) (es.length - (i2 + 1)) (c5 - (i2 + 1))) _ _ 29 rfl rfl ?_ hr
                      by_cases hc : c5 = i2 + 1
                      · rw [if_pos hc] at hAdef
                        subst hAdef
                        simp [Act.eval, hc]
                      · rw [if_neg hc] at hAdef
                        subst hAdef
                        simp [Act.eval, hc]
                    obtain ⟨ua, ul, uc, rfl⟩ := hv
                    simp only [Act.put, List.setIfInBounds_toArray, List.set_cons_succ, List.set_cons_zero]
                    refine stage_quiet 1 (by kernel_rfl) ?_
                    simp only [List.take_succ_cons, List.take_zero, List.drop_succ_cons, List.drop_zero]
                    repeat (go_big_quiet_step (fail))
                    refine wpQuiet_nil ?_
                    refine stage_nil fun w6 hw6 => ?_
                    have hSc : Scene [] w (lparts tb tv b pb sl first x1 (.slice (some ⟨g9, 0, none⟩) hs.length c9) (.slice ua ul uc) hs (es.eraseIdx i2)) w6 := by
                      obtain ⟨fp, _, hk'⟩ := hS5.out.part 2 rfl
                      exact hk' w6 _ (rowC (.slice ua ul uc) (es.eraseIdx i2).length 39 5 (flat ent (es.eraseIdx i2))) ⟨hw6.2.1, rfl⟩ (hw6.1.mono (by simp)) (fun y hy => .inr (hw6.2.2 y (by simpa using hy)))
                    have hSc := Lib.hid hSc
                    have hb5 : hs.length ≤ 100 := by omega
                    have hb6 : (es.eraseIdx i2).length ≤ k + 1 := by rw [List.length_eraseIdx_of_lt hi2]; omega
                    clear hw6 hS5 hiffH hrowH hLH hSH hAdef hA
                    go_wp2_with fail
                    all_goals
                      refine live_checks hn7 hf1 hb5 (by omega) hL2H.out hSc.out _ _ _ _ _ _ _ _ _ _ _ _ _ _ _ _ _ _ _ _ _ _ _ _ _ _ _ _ _ _ _ _ _ _ _ _ _ _ _ _ _ _ _ _ _ _ _ _ _ _ _ _ _ _ _ _ _ _ _ _ _ _ _ _ _ _ _ _ _ _ _ _ _ _ _ _ _ _ _ _ _ _ _ _ _ _ _ _ _ _ _ _ _ _ _ _ _ _ _ _ _ _ _ _ _ _ _ _ _ _ _ _ _ _ _ _ _ _ _ _ _ _ _ _ _ _ _ _ _ _ _ _ _ _ _ _ _ _ _ _ _ _ _ _ _ _ _ _ _ _ _ _ _ _ _ _ _ _ _ _ _ _ _ _ _ _ _ _ _ _ _ _ _ _ _ _ _ _ _ _ _ _ _ _ _ _ _ _ _ _ _ _ _ _ _ _ _ _ _ _ _ _ _ _ _ _ _ _ _ ?_
                      intro w9 z6 z21 z22 z23 z24 z25 z159 z160 z161 z162 z163 z164 z165 z166 z167 z168 z169 z170 z171 z172 z173 z174 z175 z176 z177 z178 z179 z180 z181 z182 z183 z184 z185 z186 z187 z188 z189 z190 z191 z192 z193 z194 z195 z196 z197 z198 z199 z200 z201 z202 z203 z204 z205 z206 z207 z208 z209 z210 z211 z212 hSf
                      have hSf := Lib.hid hSf
                      go_wp2_with fail
                      go_roundw
                      case rel => exact ⟨k + 1, by omega, by omega, by go_num, x1, hs, es.eraseIdx i2, hSf.out, hL2H.out, by first | omega | (simp; omega), by first | omega | (simp; omega)⟩
                      case measure => simp [intOf]; omega
              · have hx1 : dropT x hk = x := by unfold dropT; rw [if_neg (by rw [hr11]; omega)]
                rw [hr11, hx1] at hDr
                have hDr := Lib.hid hDr
                have hnoH := Lib.hid hno
                clear hr11 hno hx1 hrow hmem
                go_wp2_with fail
                refine hDr.out.mono ?_
                rintro e w3 ⟨rfl, hS4⟩
                have hS4 := Lib.hid (hS4.erase 0)
                have hlnL := fun ty w' => row_len (ty := ty) Try.underlying29 (hS4.out.row 2 rfl) w'
                clear hS3 hDr hcq hc8
                go_wp2_with fail
                go_loopw [130, 19] (fun i kt wr => ∃ r : Nat, r ≤ es.length ∧ i = .int .i64 r ∧ kt = .int .i64 (-1) ∧ Mod [] w3 wr) (fun i _ _ => es.length - (intOf i).toNat)
                case atStart => exact ⟨0, by omega, rfl, rfl, Mod.refl _ _⟩
                case round =>
                  obtain ⟨r, hr1, rfl, rfl, hm5⟩ := hrel
                  by_cases hlt5 : r < es.length
                  · have hrow5 := (hS4.out.then hm5).row 2 rfl
                    obtain ⟨g5, c5, rfl, _, _⟩ := row_pos hrow5 (by omega)
                    have r0 := row_cell ent_length hrow5 hlt5 rfl (k := 0) (by omega)
                    have he := hnoH.out _ (List.getElem_mem hlt5)
                    simp only [ent, List.getElem?_cons_zero, Nat.add_zero] at r0
                    generalize es[r].h = eh at *
                    have s0 : (eh == hk) = false := by simp only [beq_eq_false_iff_ne]; exact he
                    clear hrow5
                    go_wp2_with fail
                    go_roundw
                    case rel => exact ⟨r + 1, by omega, by go_num, rfl, hm5⟩
                    case measure => simp [intOf]; omega
                  · obtain rfl : r = es.length := by omega
                    have hSc := Lib.hid (hS4.out.then hm5)
                    have hb5 : hs.length ≤ 100 := by omega
                    have hb6 : es.length ≤ 100 := by omega
                    clear hS4 hm5 hSH hlnE hlnL hnoH
                    go_wp2_with fail
                    refine live_checks hn7 hf1 hb5 hb6 hLH.out hSc.out _ _ _ _ _ _ _ _ _ _ _ _ _ _ _ _ _ _ _ _ _ _ _ _ _ _ _ _ _ _ _ _ _ _ _ _ _ _ _ _ _ _ _ _ _ _ _ _ _ _ _ _ _ _ _ _ _ _ _ _ _ _ _ _ _ _ _ _ _ _ _ _ _ _ _ _ _ _ _ _ _ _ _ _ _ _ _ _ _ _ _ _ _ _ _ _ _ _ _ _ _ _ _ _ _ _ _ _ _ _ _ _ _ _ _ _ _ _ _ _ _ _ _ _ _ _ _ _ _ _ _ _ _ _ _ _ _ _ _ _ _ _ _ _ _ _ _ _ _ _ _ _ _ _ _ _ _ _ _ _ _ _ _ _ _ _ _ _ _ _ _ _ _ _ _ _ _ _ _ _ _ _ _ _ _ _ _ _ _ _ _ _ _ _ _ _ _ _ _ _ _ _ _ _ _ _ _ _ _ ?_
                    intro w9 z6 z21 z22 z23 z24 z25 z159 z160 z161 z162 z163 z164 z165 z166 z167 z168 z169 z170 z171 z172 z173 z174 z175 z176 z177 z178 z179 z180 z181 z182 z183 z184 z185 z186 z187 z188 z189 z190 z191 z192 z193 z194 z195 z196 z197 z198 z199 z200 z201 z202 z203 z204 z205 z206 z207 z208 z209 z210 z211 z212 hSf
                    have hSf := Lib.hid hSf
                    go_wp2_with fail
                    go_roundw
                    case rel => exact ⟨k + 1, by omega, by omega, by go_num, x, hs, es, hSf.out, hLH.out, by first | omega | (simp; omega), by first | omega | (simp; omega)⟩
                    case measure => simp [intOf]; omega
      · have hm := hSx.mod
        clear hSx
        go_wp2_with fail
        refine (tawake_ok _).mono ?_
        rintro e w3 ⟨rfl, hm3⟩
        go_wp2_with fail
        go_ret
        exact ⟨rfl, hm.nil_then hm3⟩
    · have hm := hSx.mod
      clear hSx
      go_wp2_with fail
      refine (tawake_ok _).mono ?_
      rintro e w3 ⟨rfl, hm3⟩
      go_wp2_with fail
      go_ret
      exact ⟨rfl, hm.nil_then hm3⟩
end Go.Proofs.Ytcdmapllligjhaa
