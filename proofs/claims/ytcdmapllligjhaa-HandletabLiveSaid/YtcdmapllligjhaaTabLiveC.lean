/- HandletabLive: the law's last loop: what resolves. -/
import Derived.Test.YtcdmapllligjhaaTabLive
import Derived.Test.YtcdmapllligjhaaTabSteps
namespace Go.Proofs.Ytcdmapllligjhaa
open Go Go.RowKit Go.Stg

theorem info_handle : (Try.prog.info? 35).map (fun i => (i.zero, i.size, i.bytes)) = some (some (.int .u64 0), 1, 8) := by kernel_rfl
theorem cellsL (w : World) (l : List Value) (T : TypeId) (cs : Array Value) (hc : cs.toList = l) : ∀ j u, l[j]? = some u → (w.alloc (.cells cs T)).cell? ((⟨w.heap.size, 0, none⟩ : Addr).add j) = some u := by
  intro j u hu
  rw [add_at, Nat.zero_add, cells_of (at_alloc w (.cells cs T))]
  rw [← hc, Array.getElem?_toList] at hu
  exact hu
theorem exec_append {P : Program} {w w' : World} {o : Oper} {a : Act} {v u v' : Value} (s x : Operand) (t : TypeId) (ho : o.op = .call { callee := .builtin .append, args := #[s, x], argTypes := #[t, t] }) (hs : a.eval s = v) (hx : a.eval x = u)
    (hr : (Builtin.append_ #[t, t] o.type #[v, u]).run P w = .ok v' w') : (execOp a.eval o).run P w = .ok (.value v') w' := by
  unfold execOp
  simp [ho, resolve, invoke, builtin, hs, hx, hr, Result.andThen]
theorem row_slice {w : World} {base sz n : Nat} {e : TypeId} {v : Value} {xs : List Value} (h : w.ownsRow base e sz v n xs) : ∃ a l c, v = .slice a l c := by
  rcases row_cases h with ⟨rfl, _⟩ | ⟨g, cap, rfl, _⟩ <;> exact ⟨_, _, _, rfl⟩
theorem part_one (l : List Ent) : ∀ u ∈ flat ent l, u.oneCell' = true := fun u hu => flat_mem (fun u => u.oneCell' = true) (fun a u h => by simp [ent] at h; rcases h with rfl | rfl | rfl | rfl | rfl <;> rfl) hu
/-- Some neighbouring elements of a row. -/
theorem part_cells {w : World} {base g n cap : Nat} {e : TypeId} {es : List Ent} (h : w.ownsRow base e 5 (.slice (some ⟨g, 0, none⟩) n cap) n (flat ent es)) (i m : Nat) (hm : i + m ≤ n) {l : List Ent} (hl : l = (es.drop i).take m) :
    ∀ j u, (flat ent l)[j]? = some u → w.cell? ((⟨g, i * 5, none⟩ : Addr).add j) = some u := fun j u hu => by
  subst hl
  have hjl := (List.getElem?_eq_some_iff.1 hu).1
  rw [flat_length ent_length, List.length_take] at hjl
  have hjm : j < m * 5 := Nat.lt_of_lt_of_le hjl (Nat.mul_le_mul_right 5 (Nat.min_le_left _ _))
  rw [add_at, h.cellAt (i * 5 + j) (by omega)]
  have e1 : flat ent es = flat ent (es.take i) ++ (flat ent ((es.drop i).take m) ++ flat ent ((es.drop i).drop m)) := by
    rw [← flat_append, ← flat_append, List.take_append_drop, List.take_append_drop]
  have hlen : (flat ent (es.take i)).length = i * 5 := by
    have hle := h.1
    rw [flat_length ent_length] at hle
    rw [flat_length ent_length, List.length_take, Nat.min_eq_left (by omega)]
  rw [e1, List.getElem?_append_right (by omega), hlen, Nat.add_sub_cancel_left, List.getElem?_append_left (by rw [flat_length ent_length, List.length_take]; exact hjl)]
  exact hu
def u64s (l : List Int) : List Value := l.map (.int .u64)
/-- The number of the region that a piece of code begins with. -/
def leftId : Code → Option Nat
  | .seq a _ => leftId a
  | .region id _ _ => some id
  | _ => none
/-- The loop whose round begins with region n. -/
def loopAt (n : Nat) : Code → Option Code
  | .loop c => if leftId c = some n then some (.loop c) else loopAt n c
  | .seq a b => match loopAt n a with
    | some c => some c
    | none => loopAt n b
  | .cond _ a b => match loopAt n a with
    | some c => some c
    | none => loopAt n b
  | .block _ c => loopAt n c
  | _ => none
/-- The law's parts. -/
def lparts (tb : Nat) (ev : Value) (b pb : Nat) (sl : Value) (first : Int) (x : TS) (hv lv : Value) (hs : List Int) (es : List Ent) : List Comp :=
  [tabC tb ev b pb sl first x, rowC hv hs.length 35 1 (u64s hs), rowC lv es.length 39 5 (flat ent es)]
set_option maxHeartbeats 40000000 in
set_option maxRecDepth 20000 in
theorem live_checks {Q : Exit → Act → World → Prop} {n : Nat} {first : Int} (hn7 : n ≤ 6) (hf1 : 1 ≤ first) {F : List Nat} {w wr : World} {tb b pb : Nat} {tv sl V9 V10 : Value} {x1 : TS} {hs1 : List Int} {es1 : List Ent} (hb5 : hs1.length ≤ 100) (hb6 : es1.length ≤ 100) (hL : LInv n first x1 hs1 es1) (hS : Scene F w (lparts tb tv b pb sl first x1 V9 V10 hs1 es1) wr)
    (v0 v1 v2 v3 v4 v5 v6 v8 v11 v12 v13 v14 v15 v16 v17 v18 v19 v20 v21 v22 v23 v24 v25 v26 v27 v28 v29 v30 v31 v32 v33 v34 v35 v36 v37 v38 v39 v40 v41 v42 v43 v44 v45 v46 v47 v48 v49 v50 v51 v52 v53 v54 v55 v56 v57 v58 v59 v60 v61 v62 v63 v64 v65 v66 v67 v68 v69 v70 v71 v72 v73 v74 v75 v76 v77 v78 v79 v80 v81 v82 v83 v84 v85 v86 v87 v88 v89 v90 v91 v92 v93 v94 v95 v96 v97 v98 v99 v100 v101 v102 v103 v104 v105 v106 v107 v108 v109 v110 v111 v112 v113 v114 v115 v116 v117 v118 v119 v120 v121 v122 v123 v124 v125 v126 v127 v128 v129 v130 v131 v132 v133 v134 v135 v136 v137 v138 v139 v140 v141 v142 v143 v144 v145 v146 v147 v148 v149 v150 v151 v152 v153 v154 v155 v156 v157 v158 v159 v162 v163 v164 v165 v166 v167 v168 v169 v170 v171 v172 v173 v174 v175 v176 v177 v178 v179 v180 v181 v182 v183 v184 v185 v186 v187 v188 v189 v190 v191 v192 v193 v194 v195 v196 v197 v198 v199 v200 v201 v202 v203 v204 v205 v206 v207 v208 v209 v210 v211 v212 v213 : Value)
    (hQ : ∀ w' (z6 z21 z22 z23 z24 z25 z159 z160 z161 z162 z163 z164 z165 z166 z167 z168 z169 z170 z171 z172 z173 z174 z175 z176 z177 z178 z179 z180 z181 z182 z183 z184 z185 z186 z187 z188 z189 z190 z191 z192 z193 z194 z195 z196 z197 z198 z199 z200 z201 z202 z203 z204 z205 z206 z207 z208 z209 z210 z211 z212 : Value), Scene F w (lparts tb tv b pb sl first x1 V9 V10 hs1 es1) w' → Q (.exit 6) { tmps := #[v0, v1, v2, v3, v4, v5, z6, .pointer (some ⟨tb, 0, none⟩), v8, V9, V10, v11, v12, v13, v14, v15, v16, v17, v18, v19, v20, z21, z22, z23, z24, z25, v26, v27, v28, v29, v30, v31, v32, v33, v34, v35, v36, v37, v38, v39, v40, v41, v42, v43, v44, v45, v46, v47, v48, v49, v50, v51, v52, v53, v54, v55, v56, v57, v58, v59, v60, v61, v62, v63, v64, v65, v66, v67, v68, v69, v70, v71, v72, v73, v74, v75, v76, v77, v78, v79, v80, v81, v82, v83, v84, v85, v86, v87, v88, v89, v90, v91, v92, v93, v94, v95, v96, v97, v98, v99, v100, v101, v102, v103, v104, v105, v106, v107, v108, v109, v110, v111, v112, v113, v114, v115, v116, v117, v118, v119, v120, v121, v122, v123, v124, v125, v126, v127, v128, v129, v130, v131, v132, v133, v134, v135, v136, v137, v138, v139, v140, v141, v142, v143, v144, v145, v146, v147, v148, v149, v150, v151, v152, v153, v154, v155, v156, v157, v158, z159, z160, z161, z162, z163, z164, z165, z166, z167, z168, z169, z170, z171, z172, z173, z174, z175, z176, z177, z178, z179, z180, z181, z182, z183, z184, z185, z186, z187, z188, z189, z190, z191, z192, z193, z194, z195, z196, z197, z198, z199, z200, z201, z202, z203, z204, z205, z206, z207, z208, z209, z210, z211, z212, v213], defers := [] } w') :
    Code.wp Try.prog ((Try.f3.body.bind (loopAt 37)).getD .skip) Q { tmps := #[v0, v1, v2, v3, v4, v5, v6, .pointer (some ⟨tb, 0, none⟩), v8, V9, V10, v11, v12, v13, v14, v15, v16, v17, v18, v19, v20, v21, v22, v23, v24, v25, v26, v27, v28, v29, v30, v31, v32, v33, v34, v35, v36, v37, v38, v39, v40, v41, v42, v43, v44, v45, v46, v47, v48, v49, v50, v51, v52, v53, v54, v55, v56, v57, v58, v59, v60, v61, v62, v63, v64, v65, v66, v67, v68, v69, v70, v71, v72, v73, v74, v75, v76, v77, v78, v79, v80, v81, v82, v83, v84, v85, v86, v87, v88, v89, v90, v91, v92, v93, v94, v95, v96, v97, v98, v99, v100, v101, v102, v103, v104, v105, v106, v107, v108, v109, v110, v111, v112, v113, v114, v115, v116, v117, v118, v119, v120, v121, v122, v123, v124, v125, v126, v127, v128, v129, v130, v131, v132, v133, v134, v135, v136, v137, v138, v139, v140, v141, v142, v143, v144, v145, v146, v147, v148, v149, v150, v151, v152, v153, v154, v155, v156, v157, v158, v159, .int .i64 hs1.length, .int .i64 0, v162, v163, v164, v165, v166, v167, v168, v169, v170, v171, v172, v173, v174, v175, v176, v177, v178, v179, v180, v181, v182, v183, v184, v185, v186, v187, v188, v189, v190, v191, v192, v193, v194, v195, v196, v197, v198, v199, v200, v201, v202, v203, v204, v205, v206, v207, v208, v209, v210, v211, v212, v213], defers := [] } wr := by
  have hSc := Lib.hid hS
  have hLc := Lib.hid hL
  have hlnE := fun ty w' => row_len (ty := ty) Try.underlying28 (hSc.out.row 1 rfl) w'
  have hlnL := fun ty w' => row_len (ty := ty) Try.underlying29 (hSc.out.row 2 rfl) w'
  clear hS hL
  dsimp only at hQ
  show Code.wp Try.prog (Code.loop _) _ _ _
  dsimp only
  go_loopw [161] (fun i wr => ∃ p : Nat, p ≤ hs1.length ∧ i = .int .i64 p ∧ Scene F w (lparts tb tv b pb sl first x1 V9 V10 hs1 es1) wr) (fun i _ => hs1.length - (intOf i).toNat)
  case atStart => exact ⟨0, by omega, rfl, hSc.out⟩
  case round =>
    obtain ⟨p, hp1, rfl, hS8⟩ := hrel
    have hS8 := Lib.hid hS8
    clear hSc
    by_cases hlt8 : p < hs1.length
    · have hmem := List.getElem_mem hlt8
      obtain ⟨q0, q1⟩ := hLc.out.bound (by omega) hmem
      have hres := hLc.out.res (by omega) (by omega) hmem
      have hrow := hS8.out.row 1 rfl
      obtain ⟨g8, c8, h8, _, _⟩ := row_pos hrow (by omega)
      cases h8
      have hc8 := hrow.cellAt p (by omega)
      unfold u64s at hc8
      rw [List.getElem?_map, List.getElem?_eq_getElem hlt8] at hc8
      simp only [Option.map_some] at hc8
      have hpk : (u64s hs1)[p]? = some (.int .u64 hs1[p]) := by unfold u64s; rw [List.getElem?_map, List.getElem?_eq_getElem hlt8]; rfl
      have hpkH := Lib.hid hpk
      clear hpk
      generalize hs1[p] = hk at *
      have hRs := sc_resolve 0 hS8.out hLc.out.t (by omega) rfl hk q0 q1
      rcases hres with ⟨⟨eh, eo, et, ef, el⟩, hee, hek, hr0, hrn⟩ | ⟨hno, hr11⟩
      · have hv8 : resV x1 hk = .tuple #[.agg #[.int .u64 eh, .int .i64 eo, .int .i64 et, .int .i64 ef, .int .i64 el], .int .i64 0] := by unfold resV; rw [hr0, hrn]; rfl
        rw [hv8] at hRs
        obtain rfl : hk = eh := hek.symm
        have hRs := Lib.hid hRs
        have heeH := Lib.hid hee
        clear hv8 hr0 hrn hrow hmem hek hee
        go_wp2_with fail
        refine hRs.out.mono ?_
        rintro e w9 ⟨rfl, hS9⟩
        have hS10 := hS9.alloc (.cells #[.int .u64 hk, .int .i64 eo, .int .i64 et, .int .i64 ef, .int .i64 el] 39 (0, 0))
        have hS10 := Lib.hid hS10
        clear hS9 hRs hS8
        go_wp2_with fail
        go_loopw [175, 24] (fun i mt wr => ∃ r : Nat, r ≤ es1.length ∧ i = .int .i64 r ∧ mt = .bool ((es1.take r).any (fun e => decide (e.h = hk))) ∧ Mod [] (w9.alloc (.cells #[.int .u64 hk, .int .i64 eo, .int .i64 et, .int .i64 ef, .int .i64 el] 39 (0, 0))) wr) (fun i _ _ => es1.length - (intOf i).toNat)
        case atStart => exact ⟨0, by omega, rfl, by simp, Mod.refl _ _⟩
        case round =>
          obtain ⟨r, hr1, rfl, rfl, hm11⟩ := hrel
          by_cases hltr : r < es1.length
          · have hrow10 := (hS10.out.then hm11).row 3 rfl
            obtain ⟨g10, c10, h10, _, hg10⟩ := row_pos hrow10 (by omega)
            cases h10
            have hrow9 := (hS10.out.then hm11).row 2 rfl
            obtain ⟨g9, c9, h9, _, hg9⟩ := row_pos hrow9 (by omega)
            cases h9
            have kk0 := GW.cell1 (S := []) (row_cell ent_length hrow10 hltr rfl (k := 0) (by omega)) hg10 (by simp)
            have kk1 := GW.cell1 (S := []) (row_cell ent_length hrow10 hltr rfl (k := 1) (by omega)) hg10 (by simp)
            have kk2 := GW.cell1 (S := []) (row_cell ent_length hrow10 hltr rfl (k := 2) (by omega)) hg10 (by simp)
            have kk3 := GW.cell1 (S := []) (row_cell ent_length hrow10 hltr rfl (k := 3) (by omega)) hg10 (by simp)
            have kk4 := GW.cell1 (S := []) (row_cell ent_length hrow10 hltr rfl (k := 4) (by omega)) hg10 (by simp)
            have kE := GW.cell1 (S := []) ((hrow9.cellAt p (by omega)).trans hpkH.out) hg9 (by simp)
            have kq := GW.cells (S := []) ((hS10.out.then hm11).block 0 rfl) (by simp)
            have hany : ((es1.take (r + 1)).any fun e => decide (e.h = hk)) = (((es1.take r).any fun e => decide (e.h = hk)) || decide (es1[r].h = hk)) := by rw [List.take_succ_eq_append_getElem hltr, List.any_append]; simp
            clear hrow10 hrow9
            by_cases ch : es1[r].h = hk
            · have hE : es1[r] = ⟨hk, eo, et, ef, el⟩ := by
                obtain ⟨i2, hi2, e2⟩ := List.getElem_of_mem heeH.out
                have := hLc.out.inj r hltr i2 hi2 (by rw [e2]; exact ch)
                subst this; exact e2
              rw [hE] at kk0 kk1 kk2 kk3 kk4
              simp only [Nat.add_zero] at kk0 kk1 kk2 kk3 kk4
              have hd : decide (es1[r].h = hk) = true := by simp [ch]
              rw [hd, Bool.or_true] at hany
              clear hd hE ch
              generalize ((es1.take r).any fun e => decide (e.h = hk)) = mb at *
              have s0 : (hk == hk) = true := by simp
              have s1 : (eo == eo) = true := by simp
              have s2 : (et == et) = true := by simp
              have s3 : (ef == ef) = true := by simp
              have s4 : (el == el) = true := by simp
              cases mb with
              | true =>
                go_wp2_with fail
                refine wp_region_pure (by kernel_rfl) (by kernel_rfl) ?_
                refine stage_quiet 22 (by kernel_rfl) ?_
                simp only [List.take_succ_cons, List.take_zero, List.drop_succ_cons, List.drop_zero]
                repeat (go_big_quiet_step (fail))
                refine wpQuiet_nil ?_
                refine stage_nil fun w12 hm12 => ?_
                have hm12 := hm11.nil_then hm12
                clear kk0 kk1 kk2 kk3 kk4 kE kq
                go_wp2_with fail
                go_roundw
                case rel => exact ⟨r + 1, by omega, by go_num, by rw [hany], hm12⟩
                case measure => simp [intOf]; omega
              | false =>
                go_wp2_with fail
                refine wp_region_pure (by kernel_rfl) (by kernel_rfl) ?_
                refine stage_quiet 22 (by kernel_rfl) ?_
                simp only [List.take_succ_cons, List.take_zero, List.drop_succ_cons, List.drop_zero]
                repeat (go_big_quiet_step (fail))
                refine wpQuiet_nil ?_
                refine stage_nil fun w12 hm12 => ?_
                have hm12 := hm11.nil_then hm12
                clear kk0 kk1 kk2 kk3 kk4 kE kq
                go_wp2_with fail
                go_roundw
                case rel => exact ⟨r + 1, by omega, by go_num, by rw [hany], hm12⟩
                case measure => simp [intOf]; omega
            · have hd : decide (es1[r].h = hk) = false := by simp [ch]
              rw [hd, Bool.or_false] at hany
              clear hd
              generalize ((es1.take r).any fun e => decide (e.h = hk)) = mb at *
              generalize es1[r] = e2 at *
              rcases e2 with ⟨xh, xo, xt, xf, xl⟩
              simp only at ch
              simp only [Nat.add_zero] at kk0 kk1 kk2 kk3 kk4
              have ch2 : (xh == hk) = false := by simp only [beq_eq_false_iff_ne]; exact ch
              cases mb with
              | true =>
                go_wp2_with fail
                refine wp_region_pure (by kernel_rfl) (by kernel_rfl) ?_
                refine stage_quiet 22 (by kernel_rfl) ?_
                simp only [List.take_succ_cons, List.take_zero, List.drop_succ_cons, List.drop_zero]
                repeat (go_big_quiet_step (fail))
                refine wpQuiet_nil ?_
                refine stage_nil fun w12 hm12 => ?_
                have hm12 := hm11.nil_then hm12
                clear kk0 kk1 kk2 kk3 kk4 kE kq
                go_wp2_with fail
                go_roundw
                case rel => exact ⟨r + 1, by omega, by go_num, by rw [hany], hm12⟩
                case measure => simp [intOf]; omega
              | false =>
                go_wp2_with fail
                refine wp_region_pure (by kernel_rfl) (by kernel_rfl) ?_
                refine stage_quiet 22 (by kernel_rfl) ?_
                simp only [List.take_succ_cons, List.take_zero, List.drop_succ_cons, List.drop_zero]
                repeat (go_big_quiet_step (fail))
                refine wpQuiet_nil ?_
                refine stage_nil fun w12 hm12 => ?_
                have hm12 := hm11.nil_then hm12
                clear kk0 kk1 kk2 kk3 kk4 kE kq
                go_wp2_with fail
                go_roundw
                case rel => exact ⟨r + 1, by omega, by go_num, by rw [hany], hm12⟩
                case measure => simp [intOf]; omega
          · obtain rfl : r = es1.length := by omega
            rw [List.take_length]
            have hall : (es1.any fun e => decide (e.h = hk)) = true := by rw [List.any_eq_true]; exact ⟨_, heeH.out, by simp⟩
            rw [hall]
            go_wp2_with fail
            go_roundw
            case rel => exact ⟨p + 1, by omega, by go_num, (hS10.out.then hm11).erase 0⟩
            case measure => simp [intOf]; omega
      · have hv8 := resV_bad hr11 (by omega)
        rw [hv8] at hRs
        have hRs := Lib.hid hRs
        have hnoH := Lib.hid hno
        clear hv8 hr11 hrow hmem hno
        go_wp2_with fail
        refine hRs.out.mono ?_
        rintro e w9 ⟨rfl, hS9⟩
        have hS10 := hS9.alloc (.cells #[.int .u64 0, .int .i64 0, .int .i64 0, .int .i64 0, .int .i64 0] 39 (0, 0))
        have hS10 := Lib.hid hS10
        clear hS9 hRs hS8
        go_wp2_with fail
        go_loopw [175, 24] (fun i mt wr => ∃ r : Nat, r ≤ es1.length ∧ i = .int .i64 r ∧ mt = .bool ((es1.take r).any (fun e => decide (e.h = hk))) ∧ Mod [] (w9.alloc (.cells #[.int .u64 0, .int .i64 0, .int .i64 0, .int .i64 0, .int .i64 0] 39 (0, 0))) wr) (fun i _ _ => es1.length - (intOf i).toNat)
        case atStart => exact ⟨0, by omega, rfl, by simp, Mod.refl _ _⟩
        case round =>
          obtain ⟨r, hr1, rfl, rfl, hm11⟩ := hrel
          by_cases hltr : r < es1.length
          · have hrow10 := (hS10.out.then hm11).row 3 rfl
            obtain ⟨g10, c10, h10, _, hg10⟩ := row_pos hrow10 (by omega)
            cases h10
            have hrow9 := (hS10.out.then hm11).row 2 rfl
            obtain ⟨g9, c9, h9, _, hg9⟩ := row_pos hrow9 (by omega)
            cases h9
            have kk0 := GW.cell1 (S := []) (row_cell ent_length hrow10 hltr rfl (k := 0) (by omega)) hg10 (by simp)
            have kk1 := GW.cell1 (S := []) (row_cell ent_length hrow10 hltr rfl (k := 1) (by omega)) hg10 (by simp)
            have kk2 := GW.cell1 (S := []) (row_cell ent_length hrow10 hltr rfl (k := 2) (by omega)) hg10 (by simp)
            have kk3 := GW.cell1 (S := []) (row_cell ent_length hrow10 hltr rfl (k := 3) (by omega)) hg10 (by simp)
            have kk4 := GW.cell1 (S := []) (row_cell ent_length hrow10 hltr rfl (k := 4) (by omega)) hg10 (by simp)
            have kE := GW.cell1 (S := []) ((hrow9.cellAt p (by omega)).trans hpkH.out) hg9 (by simp)
            have kq := GW.cells (S := []) ((hS10.out.then hm11).block 0 rfl) (by simp)
            have hany : ((es1.take (r + 1)).any fun e => decide (e.h = hk)) = (((es1.take r).any fun e => decide (e.h = hk)) || decide (es1[r].h = hk)) := by rw [List.take_succ_eq_append_getElem hltr, List.any_append]; simp
            clear hrow10 hrow9
            have ch := hnoH.out _ (List.getElem_mem hltr)
            have hd : decide (es1[r].h = hk) = false := by simp [ch]
            rw [hd, Bool.or_false] at hany
            clear hd
            generalize ((es1.take r).any fun e => decide (e.h = hk)) = mb at *
            generalize es1[r] = e2 at *
            rcases e2 with ⟨xh, xo, xt, xf, xl⟩
            simp only at ch
            simp only [Nat.add_zero] at kk0 kk1 kk2 kk3 kk4
            have ch2 : (xh == hk) = false := by simp only [beq_eq_false_iff_ne]; exact ch
            cases mb with
            | true =>
              go_wp2_with fail
              refine wp_region_pure (by kernel_rfl) (by kernel_rfl) ?_
              refine stage_quiet 22 (by kernel_rfl) ?_
              simp only [List.take_succ_cons, List.take_zero, List.drop_succ_cons, List.drop_zero]
              repeat (go_big_quiet_step (fail))
              refine wpQuiet_nil ?_
              refine stage_nil fun w12 hm12 => ?_
              have hm12 := hm11.nil_then hm12
              clear kk0 kk1 kk2 kk3 kk4 kE kq
              go_wp2_with fail
              go_roundw
              case rel => exact ⟨r + 1, by omega, by go_num, by rw [hany], hm12⟩
              case measure => simp [intOf]; omega
            | false =>
              go_wp2_with fail
              refine wp_region_pure (by kernel_rfl) (by kernel_rfl) ?_
              refine stage_quiet 22 (by kernel_rfl) ?_
              simp only [List.take_succ_cons, List.take_zero, List.drop_succ_cons, List.drop_zero]
              repeat (go_big_quiet_step (fail))
              refine wpQuiet_nil ?_
              refine stage_nil fun w12 hm12 => ?_
              have hm12 := hm11.nil_then hm12
              clear kk0 kk1 kk2 kk3 kk4 kE kq
              go_wp2_with fail
              go_roundw
              case rel => exact ⟨r + 1, by omega, by go_num, by rw [hany], hm12⟩
              case measure => simp [intOf]; omega
          · obtain rfl : r = es1.length := by omega
            rw [List.take_length]
            have hall : (es1.any fun e => decide (e.h = hk)) = false := by
              rw [List.any_eq_false]
              intro e he
              simp [hnoH.out e he]
            rw [hall]
            go_wp2_with fail
            go_roundw
            case rel => exact ⟨p + 1, by omega, by go_num, (hS10.out.then hm11).erase 0⟩
            case measure => simp [intOf]; omega
    · obtain rfl : p = hs1.length := by omega
      go_wp2_with fail
      exact hS8.out
end Go.Proofs.Ytcdmapllligjhaa
