/- The type registry's iterator. -/
import Derived.Test.YtkkjlioigdpacaaRegL
import Derived.Test.YtkkjlioigdpacaaSays
namespace Go.Proofs.Ytkkjlioigdpacaa
open Go Go.RowKit Go.Stg
attribute [local go_sem] Oper.semAt_some

theorem all_made (p : Option Addr) (w : World) : Calls Try.prog 18 #[.pointer p] w fun e w' => e = .returned (.func (.func 29) #[] #[.pointer (some ⟨w.heap.size, 0, none⟩)]) ∧ w' = w.alloc (.cells #[.pointer p] 22) := by
  go_enter Try.func18, Try.ntmps18
  go_wp2
  go_ret
  exact ⟨rfl, rfl⟩
/-- The first k types with their tags. -/
def numT (R : List Ty) (k : Nat) : List (Int × Ty) := (List.range k).map fun i : Nat => ((i : Int) + 1, R.getD i (0, []))
theorem numT_length (R : List Ty) (k : Nat) : (numT R k).length = k := by simp [numT]
theorem numT_succ (R : List Ty) (k : Nat) : numT R (k + 1) = numT R k ++ [((k : Int) + 1, R.getD k (0, []))] := by simp [numT, List.range_succ]
theorem numT_prefix (R : List Ty) (n : Nat) : ∀ k, k ≤ n → numT R k <+: numT R n := by
  induction n with
  | zero => intro k hk; obtain rfl : k = 0 := by omega
            exact List.prefix_refl _
  | succ n ih =>
    intro k hk
    by_cases h : k = n + 1
    · subst h; exact List.prefix_refl _
    · exact (ih k (by omega)).trans (by rw [numT_succ]; exact List.prefix_append _ _)
theorem below_mod {n : Nat} {a b : World} (h : RowKit.Below n a b) : Mod (List.range' n (a.heap.size - n)) a b :=
  ⟨h.os, h.tape, h.output, h.size, fun k hk hk2 => h.block k (by rw [List.mem_range'_1] at hk2; omega)⟩
theorem grown_mod {a b : World} (h : Mod [] a b) {row : Option Nat} : a.grownBy b row :=
  let hb := h.below; ⟨hb.os, hb.tape, hb.output, hb.size, fun k hk _ => hb.block k hk⟩
abbrev Elm := Int × (Ty × Value)
def prj (x : Elm) : Int × Ty := (x.1, x.2.1)
def enc (x : Elm) : Array Value := #[.int .i64 x.1, .agg #[.int .i64 x.2.1.1, x.2.2]]
/-- What the iterator says of an element. -/
def Says (R : List Ty) (B : Nat) (pre : List Elm) (x : Elm) (W : World) : Prop := pre.map prj = numT R pre.length ∧ prj x = ((pre.length : Int) + 1, R.getD pre.length (0, [])) ∧ pre.length < R.length ∧ FieldsAt W x.2.2 x.2.1.2 ∧ ∀ g, x.2.2.ownBlock = some g → B ≤ g
set_option maxRecDepth 100000 in
set_option maxHeartbeats 8000000 in
theorem allC_in (n' : Nat) (hn' : 1 ≤ n') (l Bs n₀ : Nat) {rb : Nat} {R : List Ty} {f : List Nat} (J Jx : List Elm → World → Prop) (w0 W : World) (h0 : n₀ ≤ w0.heap.size) (hR : (regC 58 rb R).on w0 f) (hf : ∀ x ∈ f, x < n₀) (hW : RowKit.Below w0.heap.size w0 W)
    (hBs : w0.heap[Bs]? = some (.cells #[.pointer (some ⟨rb, 0, none⟩)] 22 (0, 0))) (hJ : AbidesFrom W.heap.size J) (h00 : J [] W)
    (hY : ∀ pre x V, J pre V → Says R w0.heap.size pre x V → pre.length < R.length → YieldAt Fence.wide (n' - 1) Try.prog l (enc x) V fun e V' =>
      (e = .returned (.bool true) ∧ J (pre ++ [x]) V' ∧ RowKit.Below n₀ V V') ∨ (e = .returned (.bool false) ∧ Jx (pre ++ [x]) V')) :
    CallsIn Fence.wide n' Try.prog 29 #[.func (.yield l) #[] #[], .pointer (some ⟨Bs, 0, none⟩)] W fun e V => (∃ v, e = .returned v) ∧ ((∃ xs, xs.map prj = numT R R.length ∧ J xs V) ∨ (∃ pre, pre.map prj <+: numT R R.length ∧ Jx pre V)) := by
  obtain ⟨sv, L, hLR, hok, h255, hH⟩ := hR
  have hlenR : L.length = R.length := by rw [← hLR, List.length_map]
  have hL255 : L.length ≤ 255 := by omega
  have hKeep : ∀ V, RowKit.Below n₀ w0 V → Hold (regP 58 rb sv L) V f := fun V hb => hH.keep (below_mod hb) (fun x hx hx2 => by
    have := hf x hx
    rw [List.mem_range'_1] at hx2; omega)
  have hW1 : RowKit.Below n₀ w0 W := hW.mono h0
  have hcl := (Mod.of_below hW).at hBs (by simp)
  have hcc := cells_of hcl
  have hlist := Lib.hid (list_ok ((Scene.start (hKeep W hW1)).block 0 rfl))
  have hln := fun ty w => row_len (ty := ty) Try.underlying43 ((Scene.start hH).row 1 rfl) w
  have hWsz := hW.size
  have hKH := Lib.hid hKeep
  have hW1H := Lib.hid hW1
  have hJH := Lib.hid hJ
  have hYH := Lib.hid hY
  have h00H := Lib.hid h00
  have hokH := Lib.hid hok
  have hLRH := Lib.hid hLR
  have hlenH := Lib.hid hlenR
  clear hH hf hW hBs hJ h00 hY hKeep hW1 hcl hok hLR hlenR
  refine callsIn_of_wp Try.func29 rfl trivial ?_ rfl
  simp only [Try.ntmps29, List.size_toArray, List.length_cons, List.length_nil, Nat.reduceAdd, Nat.reduceSub, Array.replicate_succ, Array.replicate_zero, List.push_toArray, List.append_toArray, List.nil_append, List.cons_append]
  gi_wp2_with fail
  refine ⟨trivial, (callsIn_wide.2 hlist.out).mono ?_⟩
  rintro e w1 ⟨rfl, hm1⟩
  have hJ1 := Lib.hid (hJH.out _ _ _ none h00H.out (grown_mod hm1) (by simp))
  have hB1 := Lib.hid (hW1H.out.trans (hm1.below.mono (Nat.le_trans h0 hWsz)))
  have hsz1 := hm1.size
  clear hlist hm1 hcc hW1H h00H
  gi_wp2_with fail
  gi_loopw [8] (fun i wr => ∃ k : Nat, k ≤ L.length ∧ i = .int .i64 k ∧ ∃ pre : List Elm, pre.length = k ∧ pre.map prj = numT R k ∧ J pre wr ∧ RowKit.Below n₀ w0 wr ∧ W.heap.size ≤ wr.heap.size) (fun i _ => L.length - (intOf i).toNat)
  case atStart => exact ⟨0, by omega, rfl, [], rfl, rfl, hJ1.out, hB1.out, hsz1⟩
  case round =>
    obtain ⟨k, hk, rfl, pre, hpl, hpm, hJr, hBr, hszr⟩ := hrel
    have hplH := Lib.hid hpl
    have hpmH := Lib.hid hpm
    have hJrH := Lib.hid hJr
    have hBrH := Lib.hid hBr
    clear hpl hpm hJr hBr hJ1 hB1
    by_cases hk1 : k < L.length
    · have hS := Scene.start (hKH.out _ hBrH.out)
      obtain ⟨g, cap, rfl, hg, r0, r1⟩ := ty_cells (hS.row 1 rfl) rfl hk1
      have hF := Lib.hid (scene_fields 2 hS rfl _ (List.getElem_mem hk1))
      have hok1 := hokH.out _ (by rw [← hLRH.out]; exact List.mem_map_of_mem (List.getElem_mem hk1))
      have hfl := Lib.hid hok1.bounds.2.2
      have hgd : R.getD k (0, []) = L[k].1 := by
        rw [← hLRH.out, List.getD_eq_getElem?_getD, List.getElem?_map, List.getElem?_eq_getElem hk1]
        rfl
      have hgdH := Lib.hid hgd
      obtain ⟨va, vm, vc, hv⟩ : ∃ a m c, L[k].2 = .slice a m c := by
        rcases hF.out with ⟨h, _⟩ | ⟨_, _, _, h, _⟩ <;> exact ⟨_, _, _, h⟩
      have hF' := hF.out
      rw [hv] at hF' r1
      have hF'H := Lib.hid (hF'.mod ((Mod.refl [] wr).alloc (.cells #[.int .i64 L[k].1.1, .slice va vm vc] 31)))
      have hpl := hplH.out
      clear hS hok1 hgd hF hv hF'
      gi_wp2_with fail
      refine ⟨trivial, (callsIn_wide.2 (copied_ok L[k].1.1 (.slice va vm vc) L[k].1.2 (by have := hfl.out; omega) _ hF'H.out)).mono ?_⟩
      rintro e w5 ⟨v', rfl, hr5, hm5⟩
      have hm6 := ((Mod.refl [] wr).alloc (.cells #[.int .i64 L[k].1.1, .slice va vm vc] 31)).nil_then hm5
      have hJ5 := hJH.out _ _ _ none hJrH.out (grown_mod hm6) (by simp)
      have hsy : Says R w0.heap.size pre ((k : Int) + 1, (L[k].1, v')) w5 := by
        refine ⟨by rw [hplH.out]; exact hpmH.out, ?_, by rw [hplH.out, ← hlenH.out]; exact hk1, row_fields hr5 rfl, fun x hx => ?_⟩
        · rw [hplH.out, hgdH.out]; rfl
        · have := (hr5.lt x hx).1
          simp at this
          omega
      obtain ⟨fn, tmps, assign, body, hy, hR⟩ := hYH.out pre ((k : Int) + 1, (L[k].1, v')) w5 hJ5 hsy hsy.2.2.1
      have hpn : (pre ++ [((k : Int) + 1, (L[k].1, v'))]).map prj = numT R (k + 1) := by
        rw [List.map_append, numT_succ, hpmH.out, hgdH.out]; rfl
      have hpnH := Lib.hid hpn
      have hB6 := hBrH.out.trans (hm6.below.mono (show n₀ ≤ wr.heap.size by omega))
      have hB6H := Lib.hid hB6
      have hsz6 := hm6.size
      unfold enc at hy
      clear hYH hF'H r0 r1 hm5 hm6 hJ5 hsy hr5 hpn hB6
      gi_wp2_with fail
      refine hR.mono ?_
      rintro e W3 (⟨rfl, hJ3, hk3⟩ | ⟨rfl, hJx3⟩)
      · have hJ3H := Lib.hid hJ3
        have hsz3 := hk3.size
        have hk3H := Lib.hid hk3
        clear hJ3 hk3
        gi_wp2_with fail
        go_roundw
        case rel => exact ⟨k + 1, by omega, by go_num, _, by simp; exact hplH.out, hpnH.out, hJ3H.out, hB6H.out.trans hk3H.out, by omega⟩
        case measure => simp [intOf]; omega
      · gi_wp2_with fail
        refine bodyPost_ret (results_none rfl _ _ _) rfl ?_
        exact ⟨⟨_, rfl⟩, .inr ⟨_, by rw [hpnH.out]; exact numT_prefix _ _ _ (by rw [← hlenH.out]; omega), hJx3⟩⟩
    · obtain rfl : k = L.length := by omega
      gi_wp2_with fail
      go_end0
      exact ⟨⟨_, rfl⟩, .inl ⟨pre, by rw [hpmH.out, hlenH.out], hJrH.out⟩⟩
/-- A loop over a registry's types. -/
theorem all_says (n' : Nat) (hn' : 1 ≤ n') (Bs n₀ : Nat) {rb : Nat} {R : List Ty} {f : List Nat} (w0 : World) (h0 : n₀ ≤ w0.heap.size) (hR : (regC 58 rb R).on w0 f) (hf : ∀ x ∈ f, x < n₀)
    (hBs : w0.heap[Bs]? = some (.cells #[.pointer (some ⟨rb, 0, none⟩)] 22 (0, 0))) :
    SeqSays Fence.wide n' Try.prog 29 #[.pointer (some ⟨Bs, 0, none⟩)] enc (Says R w0.heap.size) (RowKit.Below n₀) (fun ys => ys.map prj = numT R R.length) (fun pre => pre.map prj <+: numT R R.length) R.length w0 := fun l J Jx W hW hJ _ h00 hY =>
  allC_in n' hn' l Bs n₀ J Jx w0 W h0 hR hf hW hBs hJ h00 hY
end Go.Proofs.Ytkkjlioigdpacaa
