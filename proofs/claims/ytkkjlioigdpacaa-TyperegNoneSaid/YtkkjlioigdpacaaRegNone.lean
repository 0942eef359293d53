/- TyperegNone: the walk of the law. -/
import Derived.Test.YtkkjlioigdpacaaRegP
import Derived.Test.YtkkjlioigdpacaaMade
namespace Go.Proofs.Ytkkjlioigdpacaa
open Go Go.RowKit Go.Stg
attribute [local go_sem] Oper.semAt_some

theorem register_nil (len : Int) (v : Value) (fs : List Fld) (w : World) (hF : FieldsAt w v fs) (hn : -9223372036854775808 ≤ len) (hn2 : len ≤ 9223372036854775807) {q : Int} (hq : errT len fs = q) :
    Calls Try.prog 9 #[.pointer none, .agg #[.int .i64 len, v]] w fun e w' => e = .returned (.tuple #[.int .i64 0, .int .i64 (if q = 0 then 1 else q)]) ∧ Mod [] w w' := by
  have hm0 := (Mod.refl [] w).alloc (.cells #[.int .i64 len, v] 31)
  have cbox := cells_of (at_alloc w (.cells #[.int .i64 len, v] 31))
  have hC := check_ok len v fs _ (hF.mod hm0) hn hn2
  rw [hq] at hC
  have hC := Lib.hid hC
  clear hF hq
  by_cases hz : q = 0
  · subst hz
    rw [if_pos rfl]
    go_enter Try.func9, Try.ntmps9
    go_wp2_with fail
    refine hC.out.mono ?_
    rintro e w1 ⟨rfl, hm1⟩
    go_wp2_with fail
    go_ret2
    exact ⟨rfl, hm0.nil_then hm1⟩
  · rw [if_neg hz]
    have z : (q == 0) = false := by simp only [beq_eq_false_iff_ne]; exact hz
    clear hz
    go_enter Try.func9, Try.ntmps9
    go_wp2_with fail
    refine hC.out.mono ?_
    rintro e w1 ⟨rfl, hm1⟩
    go_wp2_with fail
    go_ret2
    exact ⟨rfl, hm0.nil_then hm1⟩
def enc2 (p : Value × Value) : Array Value := #[p.1, p.2]
theorem allC_nil (n' : Nat) (hn' : 1 ≤ n') (Bs n₀ : Nat) (w0 : World) (hBs : w0.heap[Bs]? = some (.cells #[.pointer none] 22 (0, 0))) :
    SeqSays Fence.wide n' Try.prog 29 #[.pointer (some ⟨Bs, 0, none⟩)] enc2 (fun _ _ _ => False) (RowKit.Below n₀) (fun ys => ys = []) (fun _ => False) 0 w0 := by
  intro l J Jx W hW hJ _ h00 hY
  have hcc := cells_of ((Mod.of_below hW).at hBs (by simp))
  have hJH := Lib.hid hJ
  have h00H := Lib.hid h00
  clear hJ h00 hY hW hBs
  refine callsIn_of_wp Try.func29 rfl trivial ?_ rfl
  simp only [Try.ntmps29, List.size_toArray, List.length_cons, List.length_nil, Nat.reduceAdd, Nat.reduceSub, Array.replicate_succ, Array.replicate_zero, List.push_toArray, List.append_toArray, List.nil_append, List.cons_append]
  gi_wp2_with fail
  refine ⟨trivial, (callsIn_wide.2 (list_nil _)).mono ?_⟩
  rintro e w1 ⟨rfl, hm1⟩
  have hJ1 := Lib.hid (hJH.out _ _ _ none h00H.out (grown_mod hm1) (by simp))
  clear hcc
  gi_wp2_with fail
  gi_loopw [8] (fun i wr => i = .int .i64 0 ∧ J [] wr) (fun i _ => 0)
  case atStart => exact ⟨rfl, hJ1.out⟩
  case round =>
    obtain ⟨rfl, hJr⟩ := hrel
    have hJr := Lib.hid hJr
    gi_wp2_with fail
    go_end0
    exact ⟨⟨_, rfl⟩, .inl ⟨[], rfl, hJr.out⟩⟩
set_option maxRecDepth 100000 in
set_option maxHeartbeats 8000000 in
theorem none_walk (lv : Value) (xs : List Int) (tag : Int) (w : World) (h : NumsAt w lv xs) :
    Calls Try.prog 7 #[lv, .int .i64 tag] w fun e w' => e = .returned (.bool true) ∧ Mod [] w w' := by
  have hO := Lib.hid fun w' (hm : Mod [] w w') => of_ok lv xs 30 (by omega) w' (h.mod hm (by simp))
  clear h
  refine (callsIn_wide (n := 5)).1 ?_
  refine callsIn_of_wp_marks Try.func7 rfl trivial ?_ rfl
  simp only [Try.ntmps7, List.size_toArray, List.length_cons, List.length_nil, Nat.reduceAdd, Nat.reduceSub, Array.replicate_succ, Array.replicate_zero, List.push_toArray, List.append_toArray, List.nil_append, List.cons_append]
  have hm0 := (Mod.refl [] w).alloc (.cells #[.bool false] 4)
  have b0 := Lib.hid (at_alloc w (.cells #[.bool false] 4))
  have hw0 : w.heap.size < (w.alloc (.cells #[.bool false] 4)).heap.size := by simp
  gi_wp2_with fail
  refine ⟨trivial, (callsIn_wide.2 (awake_ok _)).mono ?_⟩
  generalize w.alloc (.cells #[.bool false] 4) = W0 at *
  generalize hq : w.heap.size = q at *
  rintro e w1 ⟨rfl, hm1⟩
  have b1 := Lib.hid (hm1.at b0.out (by simp))
  have hm1 := hm0.nil_then hm1
  clear hm0 b0
  gi_wp2_with fail
  refine ⟨trivial, (callsIn_wide.2 (hO.out _ hm1)).mono ?_⟩
  rintro e w2 ⟨b, rfl, hm2, hT2, hb2⟩
  have b2 := Lib.hid (hm2.at b1.out (by simp))
  have hq1 := lt_of b1.out
  have hm2 := hm1.nil_then hm2
  clear hm1 b1 hO
  gi_wp2_with fail
  refine ⟨trivial, (callsIn_wide.2 (type_next b 0 _ _ w2 hT2 (by omega))).mono ?_⟩
  rintro e w3 ⟨len, g, cap, fs, rfl, hF, hM, hcap, hm3, hg, -, -⟩
  have b3 := Lib.hid (hm3.at b2.out (by simp; omega))
  have hm3 := hm2.then hm3 (fun z hz => .inr (by rw [List.mem_singleton.1 hz]; have := hm2.size; omega))
  have herr := Lib.hid (made_err hM)
  obtain ⟨l1, l2, l3, l4⟩ := made_bounds hM
  clear hm2 b2 hT2 hM
  have hm4 := hm3.alloc (.cells #[.int .i64 len, .slice (some ⟨g, 0, none⟩) fs.length cap] 31)
  have t4 := Lib.hid (at_alloc w3 (.cells #[.int .i64 len, .slice (some ⟨g, 0, none⟩) fs.length cap] 31))
  have b4 := Lib.hid (at_alloc_old (o := .cells #[.int .i64 len, .slice (some ⟨g, 0, none⟩) fs.length cap] 31) b3.out)
  have hF4 := Lib.hid (hF.mod ((Mod.refl [] w3).alloc (.cells #[.int .i64 len, .slice (some ⟨g, 0, none⟩) fs.length cap] 31)))
  have hT3 := hm3.size
  clear hm3 b3 hF
  gi_wp2_with fail
  refine ⟨trivial, (callsIn_wide.2 (register_nil len _ fs _ hF4.out (by omega) (by omega) herr.out)).mono ?_⟩
  generalize w3.alloc (.cells #[.int .i64 len, .slice (some ⟨g, 0, none⟩) fs.length cap] 31) = W4 at *
  generalize hT : w3.heap.size = T at *
  rintro e w5 ⟨rfl, hm5⟩
  rw [if_pos rfl]
  have t5 := Lib.hid (hm5.at t4.out (by simp))
  have b5 := Lib.hid (hm5.at b4.out (by simp))
  have hF5 := Lib.hid (hF4.out.mod hm5)
  have hm5 := hm4.nil_then hm5
  clear hm4 t4 b4 hF4
  gi_wp2_with fail
  refine ⟨trivial, (callsIn_wide.2 (register_nil 0 (.slice none 0 0) [] _ (.inl ⟨rfl, rfl⟩) (by omega) (by omega) (q := 3) (by decide))).mono ?_⟩
  rintro e w6 ⟨rfl, hm6⟩
  rw [if_neg (by omega)]
  have t6 := Lib.hid (hm6.at t5.out (by simp))
  have b6 := Lib.hid (hm6.at b5.out (by simp))
  have hF6 := Lib.hid (hF5.out.mod hm6)
  have hm6 := hm5.nil_then hm6
  clear hm5 t5 b5 hF5
  gi_wp2_with fail
  refine ⟨trivial, (callsIn_wide.2 (lookup_nil tag _)).mono ?_⟩
  rintro e w7 ⟨v7, rfl, hF7, hm7⟩
  have e7 : lookE [] tag = 20 := by unfold lookE; rw [if_neg]; simp; omega
  rw [e7]
  obtain ⟨ya, ym, yc, rfl⟩ := hF7.slice
  generalize (lookT [] tag).1 = yl at *
  have hm7a := hm7.alloc (.cells #[.int .i64 yl, .slice ya ym yc] 31)
  have t7 := Lib.hid (hm7a.at t6.out (by simp))
  have b7 := Lib.hid (hm7a.at b6.out (by simp))
  have hF7 := Lib.hid (hF6.out.mod hm7a)
  have hm7 := hm6.nil_then hm7a
  clear hm6 t6 b6 hF6 hm7a e7
  gi_wp2_with fail
  refine ⟨trivial, (callsIn_wide.2 (all_made none _)).mono ?_⟩
  generalize w7.alloc (.cells #[.int .i64 yl, .slice ya ym yc] 31) = W7 at *
  rintro e w8 ⟨rfl, rfl⟩
  have hm8 := hm7.alloc (.cells #[.pointer none] 22)
  have t8 := at_alloc_old (o := .cells #[.pointer none] 22) t7.out
  have b8 := at_alloc_old (o := .cells #[.pointer none] 22) b7.out
  have hF8 := hF7.out.mod ((Mod.refl [] W7).alloc (.cells #[.pointer none] 22))
  have c8 := at_alloc W7 (.cells #[.pointer none] 22)
  have hB8 := hm8.below
  clear hm7 t7 b7 hF7
  gi_wp2_with fail
  generalize W7.alloc (.cells #[.pointer none] 22) = W8 at *
  generalize W7.heap.size = Bs at *
  have hst := allC_nil 4 (by omega) Bs q W8 c8
  rw [hq] at hB8
  have hq8 := lt_of b8
  refine wpIn_rangeFunc_at rfl (by omega) (gf := 29) (lb := #[.pointer (some ⟨Bs, 0, none⟩)]) rfl trivial (enters_of Try.func29 (by kernel_rfl) rfl) hst (RowKit.Below.refl _ _) (fun _ => rfl)
    (fun h k => h.trans k) (belowK_b' (by omega))
    (fun (_ : List (Value × Value)) W => W.heap[q]? = some (.cells #[.bool false] 4 (0, 0)) ∧ W.heap[T]? = some (.cells #[.int .i64 len, .slice (some ⟨g, 0, none⟩) fs.length cap] 31 (0, 0)) ∧ FieldsAt W (.slice (some ⟨g, 0, none⟩) fs.length cap) fs ∧ RowKit.Below q w W) (fun _ _ _ => False)
    ?hI (fun _ => ownFrom_pure _ _) ⟨b8, t8, hF8, hB8⟩ (fun T _ _ => T) (fun _ _ _ _ => False) (fun _ _ _ => ownFrom_pure _ _) ?assign ?body ?done ?stop
  case hI =>
    rintro pre A B row ⟨i1, i2, i3, i4⟩ hg hr
    have keep : ∀ {k : Nat} {cs : Array Value} {t : TypeId}, A.heap[k]? = some (.cells cs t (0, 0)) → B.heap[k]? = some (.cells cs t (0, 0)) := fun {k cs t} hk => (hg.block k (lt_of hk) (fun e' => by obtain ⟨_, o, ho, hc⟩ := hr k e'.symm; rw [hk] at ho; cases ho; cases hc)).trans hk
    exact ⟨keep i1, keep i2, i3.grown hg (fun r' e => (hr r' e).2), ownFrom_below (β := Unit) (n₀ := q) (by omega) (B := W8.heap.size) (by omega) () A B row i4 hg hr⟩
  case assign =>
    rintro l pre x W K _ h _
    exact h.elim
  case body =>
    rintro l pre x r W _ h _
    exact h.elim
  case stop =>
    rintro D c pre W _ h _ _
    exact h.elim
  case done =>
    rintro D ys W hD _ ⟨i1, i2, i3, i4⟩ hK
    have hS := Lib.hid ((Scene.empty W).add (c := regC 58 W.heap.size []) ((Mod.refl [] W).alloc (.cells #[.slice none 0 0] 58)) (reg_fresh 58 (at_alloc W _)) (by simp))
    have t9 := cells_of (at_alloc_old (o := .cells #[.slice none 0 0] 58 (0, 0)) i2)
    have hF9 := Lib.hid (i3.mod ((Mod.refl [] W).alloc (.cells #[.slice none 0 0] 58)))
    have i1H := Lib.hid i1
    have i4H := Lib.hid i4
    have hKH := Lib.hid hK
    have hqW := lt_of i1
    clear hst i1 i2 i3 i4 hK b8 t8 hF8 hB8 c8 hm8
    gi_wp2_with fail
    obtain ⟨k1, k2⟩ := reg_new (R := []) (t := (len, fs)) herr.out (by simp) (by simp)
    refine ⟨trivial, (callsIn_wide.2 (sc_register 0 hS.out rfl hF9.out (by omega) (by omega))).mono ?_⟩
    rintro e w9 ⟨rfl, hS9⟩
    rw [k2]
    rw [k1] at hS9
    simp only [List.length_nil, Int.zero_add, Int.cast_ofNat_Int] at *
    have hS9 := Lib.hid hS9
    clear k1 k2 hS t9
    gi_wp2_with fail
    refine ⟨trivial, (callsIn_wide.2 (awake_ok _)).mono ?_⟩
    rintro e w10 ⟨rfl, hm10⟩
    have hS10 := Lib.hid (hS9.out.then hm10)
    clear hS9 hm10
    gi_wp2_with fail
    refine ⟨trivial, (callsIn_wide.2 (len_nil _)).mono ?_⟩
    rintro e w11 ⟨rfl, hm11⟩
    have hS11 := Lib.hid (hS10.out.then hm11)
    clear hS10 hm11
    gi_wp2_with fail
    refine ⟨trivial, (callsIn_wide.2 (sc_rlen 0 hS11.out rfl)).mono ?_⟩
    rintro e w12 ⟨rfl, hm12⟩
    have hmm := Lib.hid (hS11.out.mod.nil_then hm12)
    have hq12 := hmm.out.at i1H.out (by simp)
    have cq := cells_of hq12
    have fq := frozen_of hq12
    have hq12H := Lib.hid hq12
    have hl1 : (([] ++ [(len, fs)] : List Ty).length : Int) = 1 := rfl
    rw [hl1]
    clear hS11 hm12 hq12 hl1
    gi_wp2_with fail
    have hqD : q ≠ D := by omega
    have hK2 := at_setCell_other (a := ⟨q, 0, none⟩) (v := .bool true) (hmm.out.at hKH.out (by simp)) (by show D ≠ q; omega)
    have hB2 := i4H.out.trans ((hmm.out.below.mono (by omega)).trans ((RowKit.Below.refl q w12).setCell (p := ⟨q, 0, none⟩) (by show q ≤ q; omega) (.bool true)))
    have hv2 := at_setCell (o := 0) (v := .bool true) hq12H.out
    refine ⟨by simp, .inl ⟨_, _, rfl, run_takeDeferred hK2, ?_⟩⟩
    have hB4 := hB2.trans (belowK_b' (n := q) (B := q) (Nat.le_refl _) (w12.setCell ⟨q, 0, none⟩ (.bool true)) D _ (.deferred none) (by omega) hK2 rfl rfl)
    have hv4 := cells_of ((World.putObj_heap_other (o := .deferred none) (w := w12.setCell ⟨q, 0, none⟩ (.bool true)) (r := D) (k := q) (by omega)).trans hv2)
    clear hv2 hK2 hB2 cq fq
    generalize (w12.setCell ⟨q, 0, none⟩ (.bool true)).putObj D (.deferred none) = W4 at *
    refine ⟨.bool true, ?_, rfl, Mod.of_below (by rw [hq]; exact hB4)⟩
    simp [results, Try.results7, asAddr, go_sem, hv4]
end Go.Proofs.Ytkkjlioigdpacaa
