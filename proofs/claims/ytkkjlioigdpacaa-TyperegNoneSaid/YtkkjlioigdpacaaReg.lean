/- The type registry: its state; list, Len, IndexFunc. -/
import Derived.Test.YtkkjlioigdpacaaRegE
import Derived.Test.YtkkjlioigdpacaaLayS
namespace Go.Proofs.Ytkkjlioigdpacaa
open Go Go.RowKit Go.Stg

abbrev Ty := Int × List Fld
def tcell (p : Ty × Value) : List Value := [.int .i64 p.1.1, p.2]
theorem tcell_length (p : Ty × Value) : (tcell p).length = 2 := rfl
def fblocks (L : List (Ty × Value)) : List Nat := L.flatMap fun p => p.2.ownBlock.toList
theorem fblocks_mem {L : List (Ty × Value)} {p : Ty × Value} (hp : p ∈ L) {x : Nat} (hx : p.2.ownBlock = some x) : x ∈ fblocks L := List.mem_flatMap.2 ⟨p, hp, by simp [hx]⟩
theorem mem_fblocks {L : List (Ty × Value)} {x : Nat} (hx : x ∈ fblocks L) : ∃ p ∈ L, p.2.ownBlock = some x := by
  obtain ⟨p, hp, h⟩ := List.mem_flatMap.1 hx
  exact ⟨p, hp, by simpa using h⟩
theorem FieldsAt.lt {w : World} {v : Value} {fs : List Fld} (h : FieldsAt w v fs) {x : Nat} (hx : v.ownBlock = some x) : x < w.heap.size := by
  rcases h with ⟨rfl, _⟩ | ⟨sb, so, cap, rfl, h2, _⟩
  · simp [Value.ownBlock] at hx
  · have hx' : some sb = some x := hx
    obtain rfl := Option.some.inj hx'
    exact h2
/-- The fields of some types. -/
def fieldsC (L : List (Ty × Value)) : Comp :=
  ⟨fun w f => (∀ p ∈ L, FieldsAt w p.2 p.1.2) ∧ f = fblocks L,
   fun h hm hT => ⟨fun p hp => (h.1 p hp).modS hm fun x hx => hT x (by rw [h.2]; exact fblocks_mem hp hx), h.2⟩,
   fun h x hx => by
    rw [h.2] at hx
    obtain ⟨p, hp, hx⟩ := mem_fblocks hx
    exact (h.1 p hp).lt hx⟩
def regP (T : TypeId) (rb : Nat) (sv : Value) (L : List (Ty × Value)) : List Comp :=
  [blockC rb (.cells #[sv] T (0, 0)), rowC sv L.length 31 2 (flat tcell L), fieldsC L]
def TyOk (t : Ty) : Prop := errT t.1 t.2 = 0
theorem TyOk.bounds {t : Ty} (h : TyOk t) : 0 ≤ t.1 ∧ t.1 ≤ 65536 ∧ t.2.length ≤ 32 := by
  obtain ⟨h1, h2, h3, _⟩ := errT_zero h
  exact ⟨h1, h2, h3⟩
def regOn (T : TypeId) (rb : Nat) (R : List Ty) (w : World) (f : List Nat) : Prop := ∃ sv L, L.map (·.1) = R ∧ (∀ t ∈ R, TyOk t) ∧ R.length ≤ 255 ∧ Hold (regP T rb sv L) w f
def regC (T : TypeId) (rb : Nat) (R : List Ty) : Comp :=
  ⟨regOn T rb R, fun ⟨sv, L, h1, h2, h3, h4⟩ hm hT => ⟨sv, L, h1, h2, h3, h4.keep hm hT⟩, fun ⟨_, _, _, _, _, h4⟩ => h4.lt⟩
theorem scene_fields {F : List Nat} {W w : World} {cs : List Comp} (i : Nat) {L : List (Ty × Value)} (h : Scene F W cs w) (hi : cs[i]? = some (fieldsC L)) : ∀ p ∈ L, FieldsAt w p.2 p.1.2 :=
  let ⟨_, h1, _⟩ := h.part i hi; h1.1
/-- One type of a row. -/
theorem ty_cells {w : World} {sv : Value} {n : Nat} {L : List (Ty × Value)} (h : w.ownsRow 0 31 2 sv n (flat tcell L)) (hn : L.length = n) {k : Nat} (hk : k < L.length) : ∃ g cap, sv = .slice (some ⟨g, 0, none⟩) n cap ∧ g < w.heap.size ∧ w.cell? ⟨g, k * 2, none⟩ = some (.int .i64 L[k].1.1) ∧ w.cell? ⟨g, k * 2 + 1, none⟩ = some L[k].2 := by
  obtain ⟨g, cap, rfl, _, hg⟩ := row_pos h (by omega)
  have r0 := row_cell tcell_length h hk hn (k := 0) (by omega)
  have r1 := row_cell tcell_length h hk hn (k := 1) (by omega)
  exact ⟨g, cap, rfl, hg, r0, r1⟩
/-- The index of a type among others, as IndexFunc returns it. -/
def idxT (R : List Ty) (t : Ty) : Int := if t ∈ R then R.idxOf t else -1
theorem idxT_here {R : List Ty} {t : Ty} {k : Nat} (hk : k < R.length) (hno : t ∉ R.take k) (he : R[k] = t) : idxT R t = k := by
  have hm : t ∈ R := he ▸ List.getElem_mem hk
  unfold idxT
  rw [if_pos hm]
  have h1 : R.idxOf t = k := by
    have hsp : R = R.take k ++ t :: R.drop (k + 1) := by
      rw [← he, List.getElem_cons_drop, List.take_append_drop]
    rw [hsp, List.idxOf_append, if_neg hno]
    simp; omega
  rw [h1]
theorem idxT_none {R : List Ty} {t : Ty} (h : t ∉ R) : idxT R t = -1 := if_neg h
set_option maxHeartbeats 1000000 in
theorem same1_ok (len len' : Int) (v v' : Value) (fs fs' : List Fld) (tb : Nat) (w : World) (h : FieldsAt w v fs) (h' : FieldsAt w v' fs') (hb : w.heap[tb]? = some (.cells #[.int .i64 len, v] 31 (0, 0))) :
    Calls Try.prog 20 #[.agg #[.int .i64 len', v'], .pointer (some ⟨tb, 0, none⟩)] w fun e w' => e = .returned (.bool (decide ((len', fs') = (len, fs)))) ∧ Mod [] w w' := by
  have hm0 := (Mod.refl [] w).alloc (.cells #[.int .i64 len', v'] 31)
  have q0 := at_alloc w (.cells #[.int .i64 len', v'] 31)
  have q1 := hm0.at hb (by simp)
  have hE := Lib.hid (equal_ok v' v fs' fs _ (h'.mod hm0) (h.mod hm0))
  have c0 := cells_of q0
  have c1 := cells_of q1
  clear h h' hb
  by_cases he : len' = len
  · subst he
    have z0 : (len' == len') = true := by simp
    go_enter Try.func20, Try.ntmps20
    go_wp2_with fail
    refine hE.out.mono ?_
    rintro e w1 ⟨rfl, hm1⟩
    go_wp2_with fail
    go_ret
    exact ⟨by simp, hm0.nil_then hm1⟩
  · have z0 : (len' == len) = false := by simp only [beq_eq_false_iff_ne]; exact he
    have heH := Lib.hid he
    clear he
    go_enter Try.func20, Try.ntmps20
    go_wp2_with fail
    go_ret
    have := heH.out
    exact ⟨by simp [this], hm0⟩
set_option maxHeartbeats 1000000 in
theorem indexf_ok (len : Int) (v : Value) (fs : List Fld) (tb : Nat) {sv : Value} {L : List (Ty × Value)} (w : World) (h : FieldsAt w v fs) (hb : w.heap[tb]? = some (.cells #[.int .i64 len, v] 31 (0, 0)))
    (hrow : w.ownsRow 0 31 2 sv L.length (flat tcell L)) (hL : ∀ p ∈ L, FieldsAt w p.2 p.1.2) (hlen : L.length ≤ 255) :
    Calls Try.prog 22 #[sv, .func (.func 20) #[] #[.pointer (some ⟨tb, 0, none⟩)]] w fun e w' => e = .returned (.int .i64 (idxT (L.map (·.1)) (len, fs))) ∧ Mod [] w w' := by
  have hln := fun ty w => row_len (ty := ty) Try.underlying43 hrow w
  have hH := Lib.hid h
  have hbH := Lib.hid hb
  have hrowH := Lib.hid hrow
  have hLH := Lib.hid hL
  obtain ⟨q, hq⟩ : ∃ q, idxT (L.map (·.1)) (len, fs) = q := ⟨_, rfl⟩
  rw [hq]
  have hqH := Lib.hid hq
  clear hq h hb hrow hL
  go_enter Try.func22, Try.ntmps22
  go_wp2_with fail
  go_loopw [8] (fun i wr => ∃ k : Nat, k ≤ L.length ∧ i = .int .i64 k ∧ Mod [] w wr ∧ (len, fs) ∉ (L.map (·.1)).take k) (fun i _ => L.length - (intOf i).toNat)
  case atStart => exact ⟨0, by omega, rfl, Mod.refl _ _, by simp⟩
  case round =>
    obtain ⟨k, hk, rfl, hm, hno⟩ := hrel
    have hnoH := Lib.hid hno
    clear hno
    by_cases hk1 : k < L.length
    · obtain ⟨g, cap, rfl, hg, r0, r1⟩ := ty_cells (row_mod hrowH.out hm (by simp)) rfl hk1
      have hFk := (hLH.out _ (List.getElem_mem hk1)).mod hm
      have hS := Lib.hid (same1_ok len L[k].1.1 v L[k].2 fs L[k].1.2 tb wr (hH.out.mod hm) hFk (hm.at hbH.out (by simp)))
      have hHere := Lib.hid fun he => idxT_here (R := L.map (·.1)) (by simpa using hk1) hnoH.out he
      have hNext : L[k].1 ≠ (len, fs) → (len, fs) ∉ (L.map (·.1)).take (k + 1) := fun hne hmem => by
        rw [take_snoc _ (show k < (L.map (·.1)).length by simpa using hk1)] at hmem
        rcases List.mem_append.1 hmem with h | h
        · exact hnoH.out h
        · rw [List.mem_singleton, List.getElem_map] at h
          exact hne h.symm
      have hNextH := Lib.hid hNext
      have hge : (L.map (·.1))[k]'(by simpa using hk1) = L[k].1 := List.getElem_map _
      have hgeH := Lib.hid hge
      clear hNext hFk hge
      go_wp2_with fail
      refine hS.out.mono ?_
      rintro e w1 ⟨rfl, hm1⟩
      by_cases he : (L[k].1.1, L[k].1.2) = (len, fs)
      · have hd : decide ((L[k].1.1, L[k].1.2) = (len, fs)) = true := decide_eq_true he
        rw [hd]
        have hq := (hHere.out (hgeH.out.trans he)).symm.trans hqH.out
        clear hd he r0 r1
        go_wp2_with fail
        go_ret
        exact ⟨by rw [← hq]; rfl, hm.nil_then hm1⟩
      · have hd : decide ((L[k].1.1, L[k].1.2) = (len, fs)) = false := decide_eq_false he
        rw [hd]
        have hN := Lib.hid (hNextH.out he)
        clear hd he r0 r1
        go_wp2_with fail
        go_roundw
        case rel => exact ⟨k + 1, by omega, by go_num, hm.nil_then hm1, hN.out⟩
        case measure => simp [intOf]; omega
    · have hno : (len, fs) ∉ L.map (·.1) := by
        have := hnoH.out
        rwa [List.take_of_length_le (by simp; omega)] at this
      have hq := (idxT_none hno).symm.trans hqH.out
      have hqq := Lib.hid hq
      clear hq hno
      go_wp2_with fail
      go_ret
      exact ⟨by rw [← hqq.out]; rfl, hm⟩
theorem list_ok {rb : Nat} {sv : Value} {w : World} (hb : w.heap[rb]? = some (.cells #[sv] 58 (0, 0))) : Calls Try.prog 24 #[.pointer (some ⟨rb, 0, none⟩)] w fun e w' => e = .returned sv ∧ Mod [] w w' := by
  have hcb := cells_of hb
  clear hb
  go_enter Try.func24, Try.ntmps24
  go_wp2_with fail
  go_ret
  exact ⟨rfl, Mod.refl _ _⟩
theorem list_nil (w : World) : Calls Try.prog 24 #[.pointer none] w fun e w' => e = .returned (.slice none 0 0) ∧ Mod [] w w' := by
  go_enter Try.func24, Try.ntmps24
  go_wp2_with fail
  go_ret
  exact ⟨rfl, Mod.refl _ _⟩
theorem len_ok {rb : Nat} {R : List Ty} {w : World} {f : List Nat} (h : (regC 58 rb R).on w f) : Calls Try.prog 11 #[.pointer (some ⟨rb, 0, none⟩)] w fun e w' => e = .returned (.int .i64 R.length) ∧ Mod [] w w' := by
  obtain ⟨sv, L, rfl, hok, _, hH⟩ := h
  have hS := Scene.start hH
  have hL := Lib.hid (list_ok (hS.block 0 rfl))
  have hln := fun ty w => row_len (ty := ty) Try.underlying43 (hS.row 1 rfl) w
  rw [List.length_map]
  clear hS hH hok
  go_enter Try.func11, Try.ntmps11
  go_wp2_with fail
  refine hL.out.mono ?_
  rintro e w1 ⟨rfl, hm⟩
  go_wp2_with fail
  go_ret
  exact ⟨rfl, hm⟩
theorem len_nil (w : World) : Calls Try.prog 11 #[.pointer none] w fun e w' => e = .returned (.int .i64 0) ∧ Mod [] w w' := by
  go_enter Try.func11, Try.ntmps11
  go_wp2_with fail
  refine (list_nil _).mono ?_
  rintro e w1 ⟨rfl, hm⟩
  go_wp2_with fail
  go_ret
  exact ⟨rfl, hm⟩
end Go.Proofs.Ytkkjlioigdpacaa
