/- Borrows: the ledger, and what is read of it. -/
import Derived.Test.YtappkiiihnaegaaBFind
import Derived.Test.YtappkiiihnaegaaScene
namespace Go.Proofs.Ytappkiiihnaegaa
open Go Go.RowKit Go.Stg

/-- The number of borrows of each object. -/
def CntIs (w : World) (c : Nat) (L : List Bor) : Prop := ∃ es ck, w.heap[c]? = some (.map es ck) ∧ IKeys es.toList ∧ ∀ o, mget o es.toList = if ofO L o = [] then none else some (.int .i64 ((ofO L o).length : Nat))
theorem CntIs.mod {S : List Nat} {w w' : World} {c : Nat} {L : List Bor} (h : CntIs w c L) (hm : Mod S w w') (hS : c ∉ S) : CntIs w' c L := by
  obtain ⟨es, ck, h1, h2⟩ := h
  exact ⟨es, ck, hm.at h1 hS, h2⟩
theorem CntIs.lt {w : World} {c : Nat} {L : List Bor} (h : CntIs w c L) : c < w.heap.size := by
  obtain ⟨es, ck, h1, h2⟩ := h
  exact lt_of h1
def LedAt (w : World) (b : Nat) (L : List Bor) (f : List Nat) : Prop :=
  (w.heap[b]? = some (.cells #[.map none, .map none] 55 (0, 0)) ∧ L = [] ∧ f = [b]) ∨
  ∃ a c bs, w.heap[b]? = some (.cells #[.map (some a), .map (some c)] 55 (0, 0)) ∧ a ≠ b ∧ c ≠ b ∧ a ≠ c ∧ MapIs w a bs ∧ bs.Perm L ∧ CntIs w c L ∧ f = [b, a, c]
theorem LedAt.keep {w w' : World} {b : Nat} {L : List Bor} {f T : List Nat} (h : LedAt w b L f) (hm : Mod T w w') (hT : ∀ x ∈ f, x ∉ T) : LedAt w' b L f := by
  rcases h with ⟨h1, h2, rfl⟩ | ⟨a, c, bs, h1, h2, h3, h4, h5, h6, h7, rfl⟩
  · exact .inl ⟨hm.at h1 (hT b (by simp)), h2, rfl⟩
  · exact .inr ⟨a, c, bs, hm.at h1 (hT b (by simp)), h2, h3, h4, h5.mod hm (hT a (by simp)), h6, h7.mod hm (hT c (by simp)), rfl⟩
theorem LedAt.lt {w : World} {b : Nat} {L : List Bor} {f : List Nat} (h : LedAt w b L f) : ∀ x ∈ f, x < w.heap.size := by
  rcases h with ⟨h1, h2, rfl⟩ | ⟨a, c, bs, h1, h2, h3, h4, h5, h6, h7, rfl⟩
  · intro x hx; simp at hx; subst hx; exact lt_of h1
  · intro x hx
    simp at hx
    rcases hx with rfl | rfl | rfl
    · exact lt_of h1
    · exact h5.lt
    · exact h7.lt
def ledC (b : Nat) (L : List Bor) : Comp := ⟨fun w f => LedAt w b L f, LedAt.keep, LedAt.lt⟩
/-- What is seen of a ledger. -/
structure LedSeen (w : World) (b : Nat) (m1 m2 : Value) (bs L : List Bor) : Prop where
  blk : w.heap[b]? = some (.cells #[m1, m2] 55 (0, 0))
  map : MapV w m1 bs
  perm : bs.Perm L
  cnt : ∀ W, Mod [] w W → ∀ o, (Instr.lookup 53 m2 (.int .i64 o) false).run Try.prog W = .ok (.int .i64 ((ofO L o).length : Nat)) W
theorem LedAt.seen {w : World} {b : Nat} {L : List Bor} {f : List Nat} (h : LedAt w b L f) : ∃ m1 m2 bs, LedSeen w b m1 m2 bs L := by
  rcases h with ⟨h1, rfl, rfl⟩ | ⟨a, c, bs, h1, h2, h3, h4, h5, h6, ⟨es, ck, k1, k2, k3⟩, rfl⟩
  · refine ⟨_, _, [], h1, .inl ⟨rfl, rfl⟩, List.Perm.refl _, fun W hW o => ?_⟩
    rw [run_lookup_nil Try.underlying53 Try.underlying3 Try.zeroValue3]
    rfl
  · refine ⟨_, _, bs, h1, .inr ⟨a, rfl, h5⟩, h6, fun W hW o => ?_⟩
    rw [run_lookup_int Try.underlying53 Try.underlying3 Try.zeroValue3 (hW.at k1 (by simp)) k2, k3]
    split
    · rename_i h; rw [h]; rfl
    · rfl
/-- A ledger or nil. -/
def LedV (w : World) (p : Option Addr) (L : List Bor) : Prop := (p = none ∧ L = []) ∨ ∃ b f, p = some ⟨b, 0, none⟩ ∧ LedAt w b L f
theorem LedV.of {w : World} {b : Nat} {L : List Bor} {f : List Nat} (h : LedAt w b L f) : LedV w (some ⟨b, 0, none⟩) L := .inr ⟨b, f, rfl, h⟩
theorem LedV.mod {w w' : World} {p : Option Addr} {L : List Bor} (h : LedV w p L) (hm : Mod [] w w') : LedV w' p L := by
  rcases h with h | ⟨b, f, h1, h2⟩
  · exact .inl h
  · exact .inr ⟨b, f, h1, h2.keep hm (by simp)⟩
theorem LedV.cases {w : World} {p : Option Addr} {L : List Bor} (h : LedV w p L) : (p = none ∧ L = []) ∨ ∃ b m1 m2 bs, p = some ⟨b, 0, none⟩ ∧ LedSeen w b m1 m2 bs L := by
  rcases h with h | ⟨b, f, h1, h2⟩
  · exact .inl h
  · obtain ⟨m1, m2, bs, h3⟩ := h2.seen
    exact .inr ⟨b, m1, m2, bs, h1, h3⟩
theorem find_nil (w : World) (g : Nat) (lb : Array Value) : Calls Try.prog 32 #[.pointer none, .func (.func g) #[] lb] w fun e w' => e = .returned (.slice none 0 0) ∧ Mod [] w w' := by
  go_enter Try.func32, Try.ntmps32
  go_wp2
  go_ret
  exact ⟨rfl, ((Mod.refl [] w).alloc _).alloc _⟩
theorem find_any {w : World} {p : Option Addr} {L : List Bor} (h : LedV w p L) (hS : Srt L) (hl : L.length ≤ 1000000) {g : Nat} {lb : Array Value} {q : Bor → Bool}
    (hJ : Judges w g lb q) (eg : ∀ args w, (callFunc g args).run Try.prog w = .ok (.enter g args) w) :
    Calls Try.prog 32 #[.pointer p, .func (.func g) #[] lb] w fun e w' => ∃ v, e = .returned v ∧ w'.ownsRow w.heap.size 25 4 v (L.filter q).length (flat bcell (L.filter q)) ∧ Mod [] w w' := by
  rcases h.cases with ⟨rfl, rfl⟩ | ⟨b, m1, m2, bs, rfl, hs⟩
  · exact (find_nil w g lb).mono fun e w' ⟨he, hm⟩ => ⟨_, he, World.ownsRow_nil _ _ _ _, hm⟩
  · exact find_ok hs.blk hs.map hs.perm hS hl hJ eg
theorem ofC_judges {w : World} {r : Nat} {o : Int} (h : w.heap[r]? = some (.cells #[.int .i64 o] 3 (0, 0))) : Judges w 33 #[.pointer (some ⟨r, 0, none⟩)] (fun x => decide (x.1.1 = o)) := by
  rintro ⟨⟨xo, xh⟩, xm, xc⟩ W hW
  have h1 := at_alloc_old (o := .cells #[.int .i64 xo, .int .i64 xh, .int .i64 xm, .int .i64 xc] 25) (hW.at h (by simp))
  have hc := cells_of h1
  have hm := (Mod.refl [] W).alloc (.cells #[.int .i64 xo, .int .i64 xh, .int .i64 xm, .int .i64 xc] 25)
  unfold bv
  have he : decide (xo = o) = (xo == o) := by by_cases h : xo = o <;> simp [h]
  show Calls _ _ _ _ fun e W' => e = .returned (.bool (decide (xo = o))) ∧ Mod [] W W'
  rw [he]
  have hmH := Lib.hid hm
  clear h h1 hm he hW
  go_enter Try.func33, Try.ntmps33
  go_wp2_with fail
  go_ret
  exact ⟨rfl, hmH.out⟩
theorem heldC_judges {w : World} {r : Nat} {o : Int} (h : w.heap[r]? = some (.cells #[.int .i64 o] 3 (0, 0))) : Judges w 40 #[.pointer (some ⟨r, 0, none⟩)] (fun x => decide (x.1.2 = o)) := by
  rintro ⟨⟨xo, xh⟩, xm, xc⟩ W hW
  have h1 := at_alloc_old (o := .cells #[.int .i64 xo, .int .i64 xh, .int .i64 xm, .int .i64 xc] 25) (hW.at h (by simp))
  have hc := cells_of h1
  have hm := (Mod.refl [] W).alloc (.cells #[.int .i64 xo, .int .i64 xh, .int .i64 xm, .int .i64 xc] 25)
  unfold bv
  have he : decide (xh = o) = (xh == o) := by by_cases h : xh = o <;> simp [h]
  show Calls _ _ _ _ fun e W' => e = .returned (.bool (decide (xh = o))) ∧ Mod [] W W'
  rw [he]
  have hmH := Lib.hid hm
  clear h h1 hm he hW
  go_enter Try.func40, Try.ntmps40
  go_wp2_with fail
  go_ret
  exact ⟨rfl, hmH.out⟩
theorem allCC_judges (w : World) : Judges w 47 #[] (fun _ => true) := by
  rintro ⟨⟨xo, xh⟩, xm, xc⟩ W hW
  have hm := (Mod.refl [] W).alloc (.cells #[.int .i64 xo, .int .i64 xh, .int .i64 xm, .int .i64 xc] 25)
  unfold bv
  have hmH := Lib.hid hm
  clear hm hW
  go_enter Try.func47, Try.ntmps47
  go_wp2_with fail
  go_ret
  exact ⟨rfl, hmH.out⟩
theorem of_ok {w : World} {p : Option Addr} {L : List Bor} (h : LedV w p L) (hS : Srt L) (hl : L.length ≤ 1000000) (o : Int) :
    Calls Try.prog 17 #[.pointer p, .int .i64 o] w fun e w' => ∃ v, e = .returned v ∧ w'.ownsRow w.heap.size 25 4 v (ofO L o).length (flat bcell (ofO L o)) ∧ Mod [] w w' := by
  have hb := at_alloc w (.cells #[.int .i64 o] 3)
  have hm := (Mod.refl [] w).alloc (.cells #[.int .i64 o] 3)
  have hf := Lib.hid (find_any (h.mod hm) hS hl (ofC_judges hb) (enters_of Try.func33 (by kernel_rfl) rfl))
  have hmH := Lib.hid hm
  clear h hb hm
  go_enter Try.func17, Try.ntmps17
  go_wp2_with fail
  refine hf.out.mono ?_
  rintro e w' ⟨v, rfl, hr, hm'⟩
  have hr' := Lib.hid (row_base hr (show w.heap.size ≤ (w.alloc (.cells #[.int .i64 o] 3)).heap.size by simp))
  have hm2 := Lib.hid (hmH.out.nil_then hm')
  clear hr hm'
  go_wp2_with fail
  go_ret
  exact ⟨v, rfl, hr'.out, hm2.out⟩
theorem heldl_ok {w : World} {p : Option Addr} {L : List Bor} (h : LedV w p L) (hS : Srt L) (hl : L.length ≤ 1000000) (o : Int) :
    Calls Try.prog 30 #[.pointer p, .int .i64 o] w fun e w' => ∃ v, e = .returned v ∧ w'.ownsRow w.heap.size 25 4 v (heldH L o).length (flat bcell (heldH L o)) ∧ Mod [] w w' := by
  have hb := at_alloc w (.cells #[.int .i64 o] 3)
  have hm := (Mod.refl [] w).alloc (.cells #[.int .i64 o] 3)
  have hf := Lib.hid (find_any (h.mod hm) hS hl (heldC_judges hb) (enters_of Try.func40 (by kernel_rfl) rfl))
  have hmH := Lib.hid hm
  clear h hb hm
  go_enter Try.func30, Try.ntmps30
  go_wp2_with fail
  refine hf.out.mono ?_
  rintro e w' ⟨v, rfl, hr, hm'⟩
  have hr' := Lib.hid (row_base hr (show w.heap.size ≤ (w.alloc (.cells #[.int .i64 o] 3)).heap.size by simp))
  have hm2 := Lib.hid (hmH.out.nil_then hm')
  clear hr hm'
  go_wp2_with fail
  go_ret
  exact ⟨v, rfl, hr'.out, hm2.out⟩
theorem held_ok {w : World} {p : Option Addr} {L : List Bor} (h : LedV w p L) (hS : Srt L) (hl : L.length ≤ 1000000) (o : Int) :
    Calls Try.prog 13 #[.pointer p, .int .i64 o] w fun e w' => e = .returned (.int .i64 ((heldH L o).length : Nat)) ∧ Mod [] w w' := by
  have hf := Lib.hid (heldl_ok h hS hl o)
  clear h
  go_enter Try.func13, Try.ntmps13
  go_wp2_with fail
  refine hf.out.mono ?_
  rintro e w' ⟨v, rfl, hr, hm'⟩
  have hln := fun ty w => row_len (ty := ty) Try.underlying36 hr w
  have hm2 := Lib.hid hm'
  clear hr hm'
  go_wp2_with fail
  go_ret
  exact ⟨rfl, hm2.out⟩
theorem getB_of_perm {bs L : List Bor} (hp : bs.Perm L) (hS : Srt L) (k : Int × Int) : getB bs k = getB L k := by
  have hn : (bs.map (·.1)).Nodup := ((hp.map (·.1)).nodup_iff).2 hS.nodup
  cases hg : getB L k with
  | none =>
    cases hg2 : getB bs k with
    | none => rfl
    | some b =>
      obtain ⟨h1, h2⟩ := getB_some hg2
      exact absurd h2 (getB_none hg b (hp.subset h1))
  | some b =>
    obtain ⟨h1, h2⟩ := getB_some hg
    have := getB_of hn (hp.symm.subset h1)
    rw [h2] at this
    exact this
theorem look_v {w : World} {mv : Value} {bs : List Bor} (h : MapV w mv bs) (k : Int × Int) : (Instr.lookup 52 mv (.agg #[.int .i64 k.1, .int .i64 k.2]) true).run Try.prog w = .ok (foundV (getB bs k)) w := by
  rcases h with ⟨rfl, rfl⟩ | ⟨mb, rfl, h⟩
  · exact look_nil w k
  · exact look_b h k
def gotB (L : List Bor) (k : Int × Int) : Bor := (getB L k).getD b0
theorem foundV_eq (o : Option Bor) : foundV o = .tuple #[bv (o.getD b0), .bool o.isSome] := by cases o <;> rfl
set_option maxHeartbeats 1000000 in
theorem holds_ok {w : World} {p : Option Addr} {L : List Bor} (h : LedV w p L) (hS : Srt L) (o k : Int) :
    Calls Try.prog 11 #[.pointer p, .int .i64 o, .int .i64 k] w fun e w' => e = .returned (foundV (getB L (o, k))) ∧ Mod [] w w' := by
  have hm := Lib.hid ((Mod.refl [] w).alloc (.cells #[.int .i64 0, .int .i64 0, .int .i64 0, .int .i64 0] 25))
  have hb := at_alloc w (.cells #[.int .i64 0, .int .i64 0, .int .i64 0, .int .i64 0] 25)
  rcases h.cases with ⟨rfl, rfl⟩ | ⟨b, m1, m2, bs, rfl, hs⟩
  · clear h hS
    go_enter Try.func11, Try.ntmps11
    go_wp2_with fail
    exact bodyPost_ret (v := .tuple #[.agg #[.int .i64 0, .int .i64 0, .int .i64 0, .int .i64 0], .bool false]) (by simp [results, Try.results11, go_sem]) rfl ⟨rfl, by repeat (first | exact Mod.refl _ _ | (refine Mod.setCell ?_ (.inr (by simp)) _) | refine Mod.alloc ?_ _)⟩
  · have hl := look_v (hs.map.keep (w' := w.alloc (.cells #[.int .i64 0, .int .i64 0, .int .i64 0, .int .i64 0] 25)) fun mb hmb => RowKit.Below.heap_alloc _ _ _ (hs.map.lt mb hmb)) (o, k)
    rw [getB_of_perm hs.perm hS, foundV_eq] at hl
    rw [foundV_eq]
    generalize ((getB L (o, k)).getD b0) = x at *
    generalize (getB L (o, k)).isSome = fl at *
    obtain ⟨⟨xo, xh⟩, xm, xc⟩ := x
    unfold bv at *
    have hcb := cells_of (at_alloc_old (o := .cells #[.int .i64 0, .int .i64 0, .int .i64 0, .int .i64 0] 25) hs.blk)
    clear h hS hs
    go_enter Try.func11, Try.ntmps11
    go_wp2_with fail
    exact bodyPost_ret (v := .tuple #[.agg #[.int .i64 xo, .int .i64 xh, .int .i64 xm, .int .i64 xc], .bool fl]) (by simp [results, Try.results11, go_sem]) rfl ⟨rfl, by repeat (first | exact Mod.refl _ _ | (refine Mod.setCell ?_ (.inr (by simp)) _) | refine Mod.alloc ?_ _)⟩
theorem ofO_nil {o : Int} : ofO [] o = [] := rfl
theorem modeO_cons {L : List Bor} {o : Int} {b : Bor} {l : List Bor} (h : ofO L o = b :: l) : modeO L o = b.2.1 := by unfold modeO; rw [h]
set_option maxHeartbeats 1000000 in
theorem mode_ok {w : World} {p : Option Addr} {L : List Bor} (h : LedV w p L) (hS : Srt L) (hl : L.length ≤ 1000000) (o : Int) :
    Calls Try.prog 29 #[.pointer p, .int .i64 o] w fun e w' => e = .returned (.int .i64 (modeO L o)) ∧ Mod [] w w' := by
  rcases h.cases with ⟨rfl, rfl⟩ | ⟨b, m1, m2, bs, rfl, hs⟩
  · clear h hS hl
    show Calls _ _ _ _ fun e w' => e = .returned (.int .i64 0) ∧ Mod [] w w'
    go_enter Try.func29, Try.ntmps29
    go_wp2_with fail
    go_ret
    exact ⟨rfl, Mod.refl _ _⟩
  · have hlk := hs.cnt w (Mod.refl _ _) o
    have hcb := cells_of hs.blk
    have hof := Lib.hid (of_ok h hS hl o)
    cases hc : ofO L o with
    | nil =>
      have hz : modeO L o = 0 := by unfold modeO; rw [hc]
      rw [hc] at hlk
      rw [hz]
      simp only [List.length_nil] at hlk
      clear h hS hl hs hof hc hz
      go_enter Try.func29, Try.ntmps29
      go_wp2_with fail
      go_ret
      exact ⟨rfl, Mod.refl _ _⟩
    | cons x l =>
      have hz := modeO_cons hc
      rw [hc] at hlk hof
      rw [hz]
      obtain ⟨n, hn⟩ : ∃ n : Int, (((x :: l).length : Nat) : Int) = n := ⟨_, rfl⟩
      rw [hn] at hlk
      have hne : (n == 0) = false := by simp at hn ⊢; omega
      obtain ⟨⟨xo, xh⟩, xm, xc⟩ := x
      clear h hS hl hs hc hz
      go_enter Try.func29, Try.ntmps29
      go_wp2_with fail
      refine hof.out.mono ?_
      rintro e w' ⟨v, rfl, hr, hm⟩
      obtain ⟨g, cap, rfl, hg1, hg2⟩ := row_pos hr (by simp)
      have hcell : w'.cell? ⟨g, 2, none⟩ = some (.int .i64 xm) := hr.cellAt 2 (by simp; omega)
      have hcap : 0 < l.length + 1 := by omega
      have hmH := Lib.hid hm
      clear hr hm hlk hcb
      go_wp2_with fail
      go_ret
      exact ⟨rfl, hmH.out⟩
/-- What Access answers. -/
def accE (L : List Bor) (o k : Int) (owner : Bool) (a : Int) : Int :=
  if a < 1 ∨ 4 < a then 1 else if owner then (if modeO L o = 2 ∨ (modeO L o = 1 ∧ (a = 2 ∨ a = 3)) then 14 else 0)
  else if a = 3 ∨ a = 4 ∨ (getB L (o, k)).isSome = false then 13 else if (gotB L (o, k)).2.1 = 1 ∧ a = 2 then 14 else 0
set_option maxHeartbeats 4000000 in
theorem access_ok {w : World} {p : Option Addr} {L : List Bor} {N : Int} (h : LedV w p L) (hI : LInv N L) (hl : L.length ≤ 1000000) (o k : Int) (owner : Bool) (a : Int) :
    Calls Try.prog 20 #[.pointer p, .int .i64 o, .int .i64 k, .bool owner, .int .i64 a] w fun e w' => e = .returned (.int .i64 (accE L o k owner a)) ∧ Mod [] w w' := by
  have hmo := Lib.hid (mode_ok h hI.srt hl o)
  have hho := holds_ok h hI.srt o k
  have hmr := modeO_range hI o
  rw [foundV_eq] at hho
  have hmd : (getB L (o, k)).isSome = true → (gotB L (o, k)).2.1 = 1 ∨ (gotB L (o, k)).2.1 = 2 := fun hh => by
    unfold gotB
    cases hg : getB L (o, k) with
    | none => rw [hg] at hh; cases hh
    | some b => exact hI.mode b (getB_some hg).1
  obtain ⟨E, hE⟩ : ∃ E, accE L o k owner a = E := ⟨_, rfl⟩
  rw [hE]
  unfold accE at hE
  change Calls _ _ _ _ (fun e w' => e = .returned (.tuple #[bv (gotB L (o, k)), _]) ∧ _) at hho
  generalize gotB L (o, k) = x at *
  generalize (getB L (o, k)).isSome = fl at *
  generalize modeO L o = m at *
  obtain ⟨⟨xo, xh⟩, xm, xc⟩ := x
  have hEH := Lib.hid hE
  have hho := Lib.hid hho
  simp only at hmd
  clear h hI hl hE
  by_cases ha1 : a < 1
  · obtain rfl : 1 = E := by have := hEH.out; rw [if_pos (.inl ha1)] at this; exact this
    clear hEH
    go_enter Try.func20, Try.ntmps20
    go_wp2_with fail
    go_ret
    exact ⟨rfl, Mod.refl _ _⟩
  · by_cases ha4 : 4 < a
    · obtain rfl : 1 = E := by have := hEH.out; rw [if_pos (.inr ha4)] at this; exact this
      clear hEH
      go_enter Try.func20, Try.ntmps20
      go_wp2_with fail
      go_ret
      exact ⟨rfl, Mod.refl _ _⟩
    · have ha : a = 1 ∨ a = 2 ∨ a = 3 ∨ a = 4 := by omega
      have hE := hEH.out
      rw [if_neg (by omega)] at hE
      clear ha1 ha4 hEH
      cases owner with
      | true =>
        simp only [if_true] at hE
        clear hho hmd
        rcases ha with rfl | rfl | rfl | rfl <;> rcases hmr with rfl | rfl | rfl <;> simp at hE <;> subst hE <;>
        · go_enter Try.func20, Try.ntmps20
          go_wp2_with fail
          refine hmo.out.mono ?_
          rintro e w' ⟨rfl, hm⟩
          have hmH := Lib.hid hm
          clear hm
          go_wp2_with fail
          go_ret
          exact ⟨rfl, hmH.out⟩
      | false =>
        simp only [Bool.false_eq_true, if_false] at hE
        clear hmo hmr
        cases fl with
        | false =>
          rw [if_pos (by simp)] at hE
          subst hE
          rcases ha with rfl | rfl | rfl | rfl <;>
          · go_enter Try.func20, Try.ntmps20
            go_wp2_with fail
            refine hho.out.mono ?_
            rintro e w' ⟨rfl, hm⟩
            have hmH := Lib.hid hm
            unfold bv
            clear hm
            go_wp2_with fail
            go_ret
            exact ⟨rfl, hmH.out.alloc _⟩
        | true =>
          have hmd := hmd rfl
          rcases ha with rfl | rfl | rfl | rfl <;> rcases hmd with rfl | rfl <;> simp at hE <;> subst hE <;>
          · go_enter Try.func20, Try.ntmps20
            go_wp2_with fail
            refine hho.out.mono ?_
            rintro e w' ⟨rfl, hm⟩
            have hmH := Lib.hid hm
            unfold bv
            clear hm
            go_wp2_with fail
            go_ret
            exact ⟨rfl, hmH.out.alloc _⟩
end Go.Proofs.Ytappkiiihnaegaa
