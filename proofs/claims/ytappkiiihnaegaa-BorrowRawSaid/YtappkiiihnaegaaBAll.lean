/- Borrows: the ledger's iterator, and the laws' list of its borrows. -/
import Derived.Test.YtappkiiihnaegaaBEnd
import Derived.Test.YtappkiiihnaegaaSays
namespace Go.Proofs.Ytappkiiihnaegaa
open Go Go.RowKit Go.Stg
attribute [local go_sem] Oper.semAt_some

/-- What a loop's body leaves alone: the cells from n₀ on that it has no hand in. -/
def Keeps (n₀ : Nat) (Av : World → Nat → Prop) (W W' : World) : Prop :=
  W.heap.size ≤ W'.heap.size ∧ ∀ k cs T fr, n₀ ≤ k → Av W k → W.heap[k]? = some (.cells cs T fr) → W'.heap[k]? = some (.cells cs T fr) ∧ Av W' k
theorem Keeps.trans {n₀ : Nat} {Av : World → Nat → Prop} {A B C : World} (h : Keeps n₀ Av A B) (k : Keeps n₀ Av B C) : Keeps n₀ Av A C :=
  ⟨Nat.le_trans h.1 k.1, fun j cs T fr hj ha hc => by
    obtain ⟨h1, h2⟩ := h.2 j cs T fr hj ha hc
    exact k.2 j cs T fr hj h2 h1⟩
theorem row_same {w w' : World} {base sz n : Nat} {e : TypeId} {v : Value} {xs : List Value} (h : w.ownsRow base e sz v n xs) (hs : ∀ g cs fr, v.ownBlock = some g → w.heap[g]? = some (.cells cs e fr) → w'.heap[g]? = some (.cells cs e fr)) : w'.ownsRow base e sz v n xs := by
  rcases h.2 with ⟨h1, h2⟩ | ⟨g, cap, cur, rfl, h2, h3, h4, h5, h6, h7⟩
  · exact ⟨h.1, .inl ⟨h1, h2⟩⟩
  · exact ⟨h.1, .inr ⟨g, cap, cur, rfl, h2, hs g _ _ rfl h3, h4, h5, h6, h7⟩⟩
theorem Keeps.row {n₀ : Nat} {Av : World → Nat → Prop} {w w' : World} (hk : Keeps n₀ Av w w') {base sz n : Nat} {e : TypeId} {v : Value} {xs : List Value} (h : w.ownsRow base e sz v n xs) (ha : ∀ g, v.ownBlock = some g → n₀ ≤ g ∧ Av w g) : w'.ownsRow base e sz v n xs ∧ ∀ g, v.ownBlock = some g → n₀ ≤ g ∧ Av w' g := by
  refine ⟨row_same h fun g cs fr hg hb => (hk.2 g cs _ fr (ha g hg).1 (ha g hg).2 hb).1, fun g hg => ⟨(ha g hg).1, ?_⟩⟩
  rcases h.2 with ⟨rfl, _⟩ | ⟨g2, cap2, cur, rfl, h2, h3, _⟩
  · simp [Value.ownBlock] at hg
  · have hk' : some g2 = some g := hg
    obtain rfl := Option.some.inj hk'
    exact (hk.2 g2 _ _ _ (ha g2 rfl).1 (ha g2 rfl).2 h3).2
theorem all_made (p : Option Addr) (w : World) : Calls Try.prog 34 #[.pointer p] w fun e w' => e = .returned (.func (.func 46) #[] #[.pointer (some ⟨w.heap.size, 0, none⟩)]) ∧ w' = w.alloc (.cells #[.pointer p] 22) := by
  go_enter Try.func34, Try.ntmps34
  go_wp2
  go_ret
  exact ⟨rfl, rfl⟩
set_option maxRecDepth 100000 in
set_option maxHeartbeats 4000000 in
theorem ballC_in (n : Nat) (hn : 1 ≤ n) (l Bs n₀ : Nat) (Av : World → Nat → Prop) {p : Option Addr} {L : List Bor} (J Jx : List Bor → World → Prop)
    (W : World) (hn₀ : n₀ ≤ W.heap.size) (hBs : W.cell? ⟨Bs, 0, none⟩ = some (.pointer p)) (hp : LedV W p L) (hS : Srt L) (hl : L.length ≤ 1000000)
    (hAv : ∀ W2 k, RowKit.Below W.heap.size W W2 → W.heap.size ≤ k → Av W2 k) (hAl : ∀ (V : World) (o : Obj) k, W.heap.size ≤ V.heap.size → Av V k → Av (V.alloc o) k) (hJ : AbidesFrom W.heap.size J) (h0 : J [] W)
    (hY : ∀ pre x V, J pre V → pre.length < L.length → YieldAt Fence.wide (n - 1) Try.prog l #[bv x] V fun e W' =>
      (e = .returned (.bool true) ∧ J (pre ++ [x]) W' ∧ Keeps n₀ Av V W') ∨ (e = .returned (.bool false) ∧ Jx (pre ++ [x]) W')) :
    CallsIn Fence.wide n Try.prog 46 #[.func (.yield l) #[] #[], .pointer (some ⟨Bs, 0, none⟩)] W fun e W' => (∃ v, e = .returned v) ∧
      ((∃ ys, ys = L ∧ J ys W') ∨ (∃ pre, pre <+: L ∧ Jx pre W')) := by
  have hf0 := find_any hp hS hl (allCC_judges W) (enters_of Try.func47 (by kernel_rfl) rfl)
  rw [show L.filter (fun _ => true) = L by simp] at hf0
  have hf := Lib.hid hf0
  have hJH := Lib.hid hJ
  have hYH := Lib.hid hY
  have hAvH := Lib.hid hAv
  have hAlH := Lib.hid hAl
  have h0H := Lib.hid h0
  clear hp hS hf0 hJ hY hAv hAl h0
  refine callsIn_of_wp Try.func46 rfl trivial ?_ rfl
  simp only [Try.ntmps46, List.size_toArray, List.length_cons, List.length_nil, Nat.reduceAdd, Nat.reduceSub, Array.replicate_succ, Array.replicate_zero, List.push_toArray, List.append_toArray, List.nil_append, List.cons_append]
  gi_wp2_with fail
  refine ⟨trivial, (callsIn_wide.2 hf.out).mono ?_⟩
  clear hf
  rintro e w1 ⟨sv, rfl, hrow, hm⟩
  have hb1 := hm.below
  have hJ1 := Lib.hid (hJH.out _ _ _ none h0H.out ⟨hb1.os, hb1.tape, hb1.output, hb1.size, fun k hk _ => hb1.block k hk⟩ (by simp))
  have hln := fun ty w => row_len (ty := ty) Try.underlying36 hrow w
  have hown := Lib.hid fun g (hg : sv.ownBlock = some g) => (⟨Nat.le_trans hn₀ (hrow.lt g hg).1, hAvH.out w1 g hb1 (hrow.lt g hg).1⟩ : n₀ ≤ g ∧ Av w1 g)
  have hrowH := Lib.hid (row_base hrow (Nat.zero_le _))
  have hsz1 := hm.size
  clear hb1 hm hBs h0H hrow
  gi_wp2_with fail
  gi_loopw [8] (fun i wr => ∃ k : Nat, k ≤ L.length ∧ i = .int .i64 k ∧ J (L.take k) wr ∧ wr.ownsRow 0 25 4 sv L.length (flat bcell L) ∧ (∀ g, sv.ownBlock = some g → n₀ ≤ g ∧ Av wr g) ∧ W.heap.size ≤ wr.heap.size)
    (fun i _ => L.length - (intOf i).toNat)
  case atStart => exact ⟨0, Nat.zero_le _, rfl, hJ1.out, hrowH.out, hown.out, hsz1⟩
  case round =>
    obtain ⟨k, hk, rfl, hJs, hrw, hav, hsz⟩ := hrel
    have hJsH := Lib.hid hJs
    have hrwH := Lib.hid hrw
    have havH := Lib.hid hav
    clear hrowH hown hJ1 hJs hrw hav
    by_cases hlt : k < L.length
    · obtain ⟨g, cap, rfl, _, hg, xo, xh, xm, xc, hs, hx, c0, c1, c2, c3⟩ := bor_cells hrwH.out rfl hlt
      have hJ5 := hJH.out _ _ _ none hJsH.out (World.grownBy_alloc wr (.cells #[.int .i64 xo, .int .i64 xh, .int .i64 xm, .int .i64 xc] 25) none) (by simp)
      obtain ⟨fn, tmps, assign, body, hy, hR⟩ := hYH.out _ ((xo, xh), (xm, xc)) _ hJ5 (by rw [List.length_take]; omega)
      rw [← hs] at hR
      have hav5 := Lib.hid fun g hg => (⟨(havH.out g hg).1, hAlH.out wr (.cells #[.int .i64 xo, .int .i64 xh, .int .i64 xm, .int .i64 xc] 25) g hsz (havH.out g hg).2⟩ : n₀ ≤ g ∧ Av (wr.alloc (.cells #[.int .i64 xo, .int .i64 xh, .int .i64 xm, .int .i64 xc] 25)) g)
      have hrw5 := Lib.hid (hrwH.out.alloc (.cells #[.int .i64 xo, .int .i64 xh, .int .i64 xm, .int .i64 xc] 25))
      have hs5 : W.heap.size ≤ (wr.alloc (.cells #[.int .i64 xo, .int .i64 xh, .int .i64 xm, .int .i64 xc] 25)).heap.size := by simp; omega
      unfold bv at hy
      clear hYH hs hx hJ5
      gi_wp2_with fail
      refine hR.mono ?_
      rintro e W3 (⟨rfl, hJ3, hk3⟩ | ⟨rfl, hJx3⟩)
      · have hJ3H := Lib.hid hJ3
        have hk3H := Lib.hid hk3
        have hs6 := Nat.le_trans hs5 hk3.1
        clear hJ3 hk3 c0 c1 c2 c3
        gi_wp2_with fail
        go_roundw
        case rel => exact ⟨k + 1, by omega, by go_num, hJ3H.out, (hk3H.out.row hrw5.out hav5.out).1, (hk3H.out.row hrw5.out hav5.out).2, hs6⟩
        case measure => simp [intOf]; omega
      · gi_wp2_with fail
        refine bodyPost_ret (results_none rfl _ _ _) rfl ?_
        exact ⟨⟨_, rfl⟩, .inr ⟨_, List.take_prefix (k + 1) L, hJx3⟩⟩
    · obtain rfl : k = L.length := by omega
      gi_wp2_with fail
      go_end0
      exact ⟨⟨_, rfl⟩, .inl ⟨_, rfl, by have := hJsH.out; rwa [List.take_length] at this⟩⟩
/-- A loop over a ledger's borrows. -/
theorem ball_says (n : Nat) (hn : 1 ≤ n) (Bs n₀ : Nat) (Av : World → Nat → Prop) {p : Option Addr} {L : List Bor} (w : World) (hBs : w.heap[Bs]? = some (.cells #[.pointer p] 22 (0, 0))) (hn₀ : n₀ ≤ w.heap.size) (hp : LedV w p L) (hS : Srt L) (hl : L.length ≤ 1000000)
    (hAv : ∀ W W2 k, RowKit.Below w.heap.size w W → RowKit.Below W.heap.size W W2 → W.heap.size ≤ k → Av W2 k) (hAl : ∀ (V : World) (o : Obj) k, w.heap.size ≤ V.heap.size → Av V k → Av (V.alloc o) k) :
    SeqSays Fence.wide n Try.prog 46 #[.pointer (some ⟨Bs, 0, none⟩)] (fun x : Bor => #[bv x]) (fun _ _ _ => True) (Keeps n₀ Av) (fun ys => ys = L) (fun pre => pre <+: L) L.length w := fun l J Jx W hW hJ _ h0 hY =>
  ballC_in n hn l Bs n₀ Av J Jx W (Nat.le_trans hn₀ hW.size) ((World.cell?_of_block (a := ⟨Bs, 0, none⟩) (hW.block Bs (lt_of hBs))).trans (by rw [cells_of hBs]; rfl)) (hp.mod (Mod.of_below hW)) hS hl (fun W2 k h1 h2 => hAv W W2 k hW h1 h2) (fun V o k h => hAl V o k (Nat.le_trans hW.size h)) hJ h0 (fun pre x V h1 h2 => hY pre x V h1 trivial h2)
theorem putObj_other (W : World) {l k : Nat} (o' : Obj) (h : k ≠ l) : (W.putObj l o').heap[k]? = W.heap[k]? := by
  show (W.heap.setIfInBounds l o')[k]? = _
  rw [Array.getElem?_setIfInBounds_ne (Ne.symm h)]
/-- What no slice in box h owns. -/
def Apart1 (h : Nat) (W : World) (k : Nat) : Prop := ∀ v, W.cell? ⟨h, 0, none⟩ = some v → v.ownBlock ≠ some k
theorem apart1_put {h B : Nat} (hB : h < B) : ∀ (W : World) (l : Nat) (o' : Obj) k, B ≤ l → Apart1 h W k → Apart1 h (W.putObj l o') k := by
  intro W l o' k hl ha v hv
  refine ha v ?_
  rw [← hv]
  exact (World.cell?_of_block (a := ⟨h, 0, none⟩) (putObj_other W o' (by show h ≠ l; omega))).symm
theorem apart1_alloc {h : Nat} {W : World} (hB : h < W.heap.size) (o : Obj) (k : Nat) (ha : Apart1 h W k) : Apart1 h (W.alloc o) k := by
  intro v hv
  refine ha v ?_
  rw [← hv]
  exact (World.cell?_of_block (a := ⟨h, 0, none⟩) (RowKit.Below.heap_alloc _ _ _ hB)).symm
theorem keeps_b {n₀ B : Nat} {Av : World → Nat → Prop} (hAv : ∀ (W : World) (l : Nat) (o' : Obj) k, B ≤ l → Av W k → Av (W.putObj l o') k) : ∀ (W : World) (l : Nat) (o o' : Obj), B ≤ l → W.heap[l]? = some o → o.isCells = false → o.isWalk = false → Keeps n₀ Av W (W.putObj l o') := by
  intro W l o o' hl ho hc _
  have hg := grownBy_putObj' W l o'
  refine ⟨hg.size, fun k cs T fr _ ha hk => ⟨(hg.block k (lt_of hk) (fun e => ?_)).trans hk, hAv W l o' k hl ha⟩⟩
  have e' : k = l := Option.some.inj e
  subst e'
  rw [hk] at ho
  cases ho
  simp [Obj.isCells] at hc
theorem keeps_alloc {n₀ h : Nat} {W : World} (hB : h < W.heap.size) (o : Obj) : Keeps n₀ (Apart1 h) W (W.alloc o) :=
  ⟨by simp, fun k cs T fr _ ha hk => ⟨at_alloc_old hk, apart1_alloc hB o k ha⟩⟩
set_option maxRecDepth 100000 in
set_option maxHeartbeats 4000000 in
theorem listed_ok {w : World} {p : Option Addr} {L : List Bor} (hp : LedV w p L) (hS : Srt L) (hl : L.length ≤ 1000000) : Calls Try.prog 19 #[.pointer p] w fun e w' => ∃ v, e = .returned v ∧ w'.ownsRow w.heap.size 25 4 v L.length (flat bcell L) ∧ Mod [] w w' := by
  obtain ⟨i5, hi5, hz0, hz1, hz2⟩ := info_parts info_bor
  refine (callsIn_wide (n := 5)).1 ?_
  refine callsIn_of_wp_marks Try.func19 rfl trivial ?_ rfl
  simp only [Try.ntmps19, List.size_toArray, List.length_cons, List.length_nil, Nat.reduceAdd, Nat.reduceSub, Array.replicate_succ, Array.replicate_zero, List.push_toArray, List.append_toArray, List.nil_append, List.cons_append]
  gi_wp2_with fail
  refine ⟨trivial, (callsIn_wide.2 (all_made p _)).mono ?_⟩
  rintro e w' ⟨rfl, rfl⟩
  gi_wp2_with fail
  have bO := Boxed.new w 36 (.slice none 0 0)
  have bN := Boxed.new (w.alloc (.cells #[.slice none 0 0] 36)) 22 (.pointer p)
  rw [World.size_alloc] at bN
  have hB0 : RowKit.Below w.heap.size w ((w.alloc (.cells #[.slice none 0 0] 36)).alloc (.cells #[.pointer p] 22)) := ((RowKit.Below.refl _ w).alloc (Nat.le_refl _) _).alloc (by simp) _
  have hp0 := hp.mod (Mod.of_below hB0)
  have bO0 := bO.alloc (.cells #[.pointer p] 22)
  have hsz : ((w.alloc (.cells #[.slice none 0 0] 36)).alloc (.cells #[.pointer p] 22)).heap.size = w.heap.size + 2 := by simp
  generalize (w.alloc (.cells #[.slice none 0 0] 36)).alloc (.cells #[.pointer p] 22) = W0 at *
  generalize hq : w.heap.size = q at *
  have hst := ball_says 4 (by omega) (q + 1) W0.heap.size (Apart1 q) W0 bN (by omega) hp0 hS hl (fun W W2 k h1 h2 hk v hv => by
    have e1 : W2.cell? ⟨q, 0, none⟩ = some (.slice none 0 0) := by
      rw [World.cell?_of_block (a := ⟨q, 0, none⟩) (h2.block _ (Nat.lt_of_lt_of_le (by show q < W0.heap.size; omega) h1.size)), World.cell?_of_block (a := ⟨q, 0, none⟩) (h1.block _ (by show q < W0.heap.size; omega))]
      exact bO0.cell
    rw [e1] at hv
    cases hv
    simp [Value.ownBlock]) (fun V o k h => apart1_alloc (by omega) o k)
  have hstH := Lib.hid hst
  clear hst hp hp0 bO hS
  refine wpIn_rangeFunc_at rfl (by omega) (gf := 46) (lb := #[.pointer (some ⟨q + 1, 0, none⟩)]) rfl trivial (enters_of Try.func46 (by kernel_rfl) rfl) hstH.out (RowKit.Below.refl _ _) (fun _ => rfl)
    (fun h k => h.trans k) (keeps_b (apart1_put (by omega)))
    (fun (pre : List Bor) W => (∃ v, Boxed W q 36 v ∧ W.ownsRow q 25 4 v pre.length (flat bcell pre) ∧ True) ∧ RowKit.Below q w W) (fun _ _ _ => False)
    (OwnFrom.and (Own.from (holdsRow_own q q 36 25 4 (fun (pre : List Bor) => pre.length) (fun (pre : List Bor) => flat bcell pre) (fun _ _ => True)) _) (ownFrom_below (by omega) (by omega)))
    (fun _ => ownFrom_pure _ _) ⟨⟨_, bO0, World.ownsRow_nil _ _ _ _, trivial⟩, hB0⟩
    (fun T x r => (T.setIfInBounds 7 (bv x)).setIfInBounds 4 (.pointer (some ⟨r, 0, none⟩)))
    (fun _ x r W => W.heap[r]? = some (.cells #[.int .i64 x.1.1, .int .i64 x.1.2, .int .i64 x.2.1, .int .i64 x.2.2] 25 (0, 0)))
    ?hax ?assign ?body ?done ?stop
  case hax =>
    rintro pre x r _ A B row h1 hg hr
    exact (hg.block r (lt_of h1) (fun e' => by obtain ⟨_, o, ho, hc⟩ := hr r e'.symm; rw [h1] at ho; cases ho; cases hc)).trans h1
  case assign =>
    rintro l pre ⟨⟨xo, xh⟩, xm, xc⟩ W K ⟨⟨v, hv, hrow, -⟩, hB⟩ - hK
    have hKH := Lib.hid hK
    clear hK
    unfold bv
    gi_wp2_with fail
    have hbx := at_alloc W (.cells #[.int .i64 xo, .int .i64 xh, .int .i64 xm, .int .i64 xc] 25 (0, 0))
    have hqW := hv.lt
    have hBW := (RowKit.Below.refl q W).alloc (by omega) (.cells #[.int .i64 xo, .int .i64 xh, .int .i64 xm, .int .i64 xc] 25 (0, 0))
    exact hKH.out W.heap.size _ ((KeepsOthers.alloc W _).from _) (keeps_alloc hqW _) ⟨⟨v, hv.alloc _, hrow.alloc _, trivial⟩, hB.trans hBW⟩ hbx
  case body =>
    rintro l pre ⟨⟨xo, xh⟩, xm, xc⟩ r W ⟨⟨v, hv, hrow, -⟩, hB⟩ hr hlt
    simp only at hr
    have hc := hv.cell
    have hcr := cells_of hr
    have hnwH := Lib.hid (cellsE W (bcell ((xo, xh), (xm, xc))) 25 #[.int .i64 xo, .int .i64 xh, .int .i64 xm, .int .i64 xc] rfl)
    have hb1 : pre.length + 1 ≤ maxLen := by unfold maxLen; omega
    have hb2 : (pre.length + 1) * 32 ≤ 140737488355328 := by omega
    have hvH := Lib.hid hv
    have hBH := Lib.hid hB
    have hrowH := Lib.hid hrow
    have hBs := hB.size
    clear bO0 bN hB0 hv hB hrow hr
    gi_wp2_with (gi_at_builtin; refine wpListIn_append_row _ rfl _ _ 36 rfl q 25 i5 (bv b0) 4 32 Try.underlying36 hi5 hz0 hz1 hz2 rfl (by decide) v pre.length _ rfl (hrowH.out.alloc _) ⟨W.heap.size, 0, none⟩ 1 1 (bcell ((xo, xh), (xm, xc))) rfl rfl hnwH.out (by simp [bcell, Value.oneCell']) hb1 hb2 (by simp; omega) ?_; intro v' w1 hown' hgrow hfr; obtain ⟨g', cap', rfl⟩ := ownsRow_succ hown'; obtain ⟨hv1, hv2, hr2, hk2, hbb2⟩ := hvH.out.appended (by decide) hrowH.out (by omega) (by omega) hown' hgrow; have hc1 := hv1.cell; have hf1 := hv1.frozen; have hv2H := Lib.hid hv2; have hr2H := Lib.hid hr2; have hk2H := Lib.hid hk2; have hb2H := Lib.hid hbb2; have hgrowH := Lib.hid hgrow; have hfrH := Lib.hid hfr; clear hv1 hv2 hr2 hk2 hbb2 hgrow hfr)
    refine ⟨hk2H.out.from _, ⟨hk2H.out.size, fun k cs T fr hk ha hck => ⟨?_, fun u hu => ?_⟩⟩, ⟨_, hv2H.out, by rw [List.length_append, flat_append, flat_one]; exact hr2H.out, trivial⟩, hBH.out.trans hb2H.out⟩
    · have hlt := lt_of hck
      have hne : k ≠ q := by omega
      have h1 := (hgrowH.out.block k (by simp; omega) (fun e => ha v hc e.symm)).trans (at_alloc_old hck)
      exact at_setCell_other h1 hne
    · rw [hv2H.out.cell] at hu
      cases hu
      intro e
      rcases hfrH.out k e with h | h
      · exact ha v hc h
      · have := lt_of hck
        simp at h
        omega
  case done =>
    rintro D ys W hD rfl ⟨⟨v, hv, hrow, -⟩, hB⟩ hK
    have hc := hv.cell
    gi_wp2_with fail
    refine ⟨by simp, .inl ⟨_, _, rfl, run_takeDeferred hK, ?_⟩⟩
    have hK' := ownsRow_putObj hrow (.deferred none) hK rfl
    have hB' := hB.trans (belowK_b (w := w) (by omega) W D _ (.deferred none) (by omega) hK rfl rfl)
    generalize W.putObj D (.deferred none) = W2 at *
    exact ⟨_, results_tmp rfl _ _ _, v, rfl, by rw [hq]; exact hK', Mod.of_below (by rw [hq]; exact hB')⟩
  case stop =>
    rintro D c pre W _ _ h _
    exact h.elim
end Go.Proofs.Ytappkiiihnaegaa
