/- The type registry: New, Lookup; the definition's Lookup. -/
import Derived.Test.YtkkjlioigdpacaaRegD
namespace Go.Proofs.Ytkkjlioigdpacaa
open Go Go.RowKit Go.Stg

theorem new_ok (w : World) : Calls Try.prog 8 #[] w fun e w' => e = .returned (.pointer (some ⟨w.heap.size, 0, none⟩)) ∧ w' = w.alloc (.cells #[.slice none 0 0] 58) := by
  go_enter Try.func8, Try.ntmps8
  go_wp2_with fail
  go_ret
  exact ⟨rfl, rfl⟩
/-- An empty registry, just laid. -/
theorem reg_fresh (T : TypeId) {w : World} {b : Nat} (h : w.heap[b]? = some (.cells #[.slice none 0 0] T (0, 0))) : (regC T b []).on w ([b] ++ ([] ++ ([] ++ []))) :=
  ⟨.slice none 0 0, [], rfl, by simp, by simp, [b], _, ⟨h, rfl⟩, ⟨[], _, ⟨World.ownsRow_nil _ _ _ _, rfl⟩, ⟨[], [], ⟨by simp, rfl⟩, rfl, by simp, rfl⟩, by simp, rfl⟩, by simp, rfl⟩
def lookT (R : List Ty) (tag : Int) : Ty := if 1 ≤ tag ∧ tag ≤ R.length then R.getD (tag - 1).toNat (0, []) else (0, [])
def lookE (R : List Ty) (tag : Int) : Int := if 1 ≤ tag ∧ tag ≤ R.length then 0 else 20
def LookPost (R : List Ty) (tag : Int) (w : World) (e : Ending) (w' : World) : Prop := ∃ v', e = .returned (.tuple #[.agg #[.int .i64 (lookT R tag).1, v'], .int .i64 (lookE R tag)]) ∧ FieldsAt w' v' (lookT R tag).2 ∧ Mod [] w w'
theorem look_bad {R : List Ty} {tag : Int} {w w' : World} (h : ¬ (1 ≤ tag ∧ tag ≤ R.length)) {e : Ending} (he : e = .returned (.tuple #[.agg #[.int .i64 0, .slice none 0 0], .int .i64 20])) (hm : Mod [] w w') : LookPost R tag w e w' := by
  unfold LookPost lookT lookE
  rw [if_neg h, if_neg h]
  exact ⟨_, he, .inl ⟨rfl, rfl⟩, hm⟩
theorem look_at {R : List Ty} {tag : Int} (h1 : 1 ≤ tag) (h2 : tag ≤ R.length) {L : List (Ty × Value)} (hL : L.map (·.1) = R) (hk : (tag - 1).toNat < L.length) : lookT R tag = L[(tag - 1).toNat].1 ∧ lookE R tag = 0 := by
  unfold lookT lookE
  rw [if_pos ⟨h1, h2⟩, if_pos ⟨h1, h2⟩]
  subst hL
  rw [List.getD_eq_getElem?_getD, List.getElem?_map, List.getElem?_eq_getElem hk]
  exact ⟨rfl, rfl⟩
set_option maxHeartbeats 4000000 in
theorem lookup_ok {rb : Nat} {R : List Ty} {w : World} {f : List Nat} (h : (regC 58 rb R).on w f) (tag : Int) :
    Calls Try.prog 14 #[.pointer (some ⟨rb, 0, none⟩), .int .i64 tag] w (LookPost R tag w) := by
  obtain ⟨sv, L, hLR, hok, h255, hH⟩ := h
  have hlenR : L.length = R.length := by rw [← hLR, List.length_map]
  have hL255 : L.length ≤ 255 := by omega
  have hm0 := (Mod.refl [] w).alloc (.cells #[.int .i64 0, .slice none 0 0] 31)
  have hq0 := at_alloc w (.cells #[.int .i64 0, .slice none 0 0] 31)
  have hS0 := (Scene.start hH).then hm0
  have hlist := Lib.hid (list_ok (hS0.block 0 rfl))
  have hln := fun ty w => row_len (ty := ty) Try.underlying43 (hS0.row 1 rfl) w
  have hq0H := Lib.hid hq0
  have hm0H := Lib.hid hm0
  have hS0H := Lib.hid hS0
  have hokH := Lib.hid hok
  have hLRH := Lib.hid hLR
  have hwl : w.heap.size < (w.alloc (.cells #[.int .i64 0, .slice none 0 0] 31)).heap.size := by simp
  clear hH hok hLR hq0 hS0 hm0
  by_cases ht : 1 ≤ tag ∧ tag ≤ R.length
  · obtain ⟨h1, h2⟩ := ht
    have hk : (tag - 1).toNat < L.length := by omega
    obtain ⟨e1, e2⟩ := look_at h1 h2 hLRH.out hk
    have e1H := Lib.hid e1
    have e2H := Lib.hid e2
    have hn : (((tag - 1).toNat : Nat) : Int) = tag - 1 := by omega
    have hlenH := Lib.hid hlenR
    clear e1 e2 hlenR
    generalize hkk : (tag - 1).toNat = k at *
    obtain ⟨g, cap, rfl, hg, _, _⟩ := ty_cells (hS0H.out.row 1 rfl) rfl hk
    have hkH := Lib.hid hkk
    have htk : tag = k + 1 := by omega
    have hle : (k : Int) + 1 ≤ L.length := by omega
    clear hkk hn h1 h2
    subst htk
    go_enter Try.func14, Try.ntmps14
    go_wp2_with fail
    refine hlist.out.mono ?_
    rintro e w1 ⟨rfl, hm1⟩
    have hS1 := Lib.hid (hS0H.out.then hm1)
    have hq1 := Lib.hid (hm1.at hq0H.out (by simp))
    have hm1 := Lib.hid (hm0H.out.nil_then hm1)
    have hF := Lib.hid (scene_fields 2 hS1.out rfl _ (List.getElem_mem hk))
    have hok1 := hokH.out _ (by rw [← hLRH.out]; exact List.mem_map_of_mem (List.getElem_mem hk))
    have hfl := hok1.bounds.2.2
    obtain ⟨g', cap', e, _, r0, r1⟩ := ty_cells (hS1.out.row 1 rfl) rfl hk
    simp at e
    obtain ⟨rfl, rfl⟩ := e
    clear hlist hS0H hq0H hm0H hok1
    go_wp2_with fail
    refine (copied_ok _ _ _ (by omega) _ hF.out).mono ?_
    rintro e w2 ⟨v', rfl, hr, hm2⟩
    have hq2 := Lib.hid (hm2.at hq1.out (by simp))
    have hm3 := Lib.hid (hm1.out.nil_then hm2)
    have hlt := hr.lt
    obtain ⟨va, vm, vc, rfl⟩ := row_src hr
    have hrH := Lib.hid hr
    have hcq := cells_of hq2.out
    have hfq := frozen_of hq2.out
    have hw2 := lt_of hq1.out
    clear hF r0 r1 hq1 hm1 hr hS1
    go_wp2_with fail
    have hq5 := (at_setCell (o := 1) (v := .slice va vm vc) (at_setCell (o := 0) (v := .int .i64 L[k].1.1) (hq2.out)))
    have hm5 := (((hm3.out).setCell (p := ⟨w.heap.size, 0, none⟩) (.inr (Nat.le_refl _)) (.int .i64 L[k].1.1)).setCell (p := ⟨w.heap.size, 1, none⟩) (.inr (Nat.le_refl _)) (.slice va vm vc))
    refine bodyPost_ret (ret_cell_tmp Try.results14 rfl rfl hq5 Try.underlying31 rfl (by kernel_rfl)) rfl ?_
    unfold LookPost
    rw [e1H.out, e2H.out]
    refine ⟨.slice va vm vc, rfl, ?_, hm5⟩
    have hm6 := ((Mod.refl [w.heap.size] w2).setCell (p := ⟨w.heap.size, 0, none⟩) (.inl (by simp)) (.int .i64 L[k].1.1)).setCell (p := ⟨w.heap.size, 1, none⟩) (.inl (by simp)) (.slice va vm vc)
    exact row_fields (row_mod hrH.out hm6 (fun g hg => by have := (hlt g hg).1; simp; omega)) rfl
  · have htH := Lib.hid ht
    have hd : tag < 1 ∨ (¬ tag < 1 ∧ (L.length : Int) < tag) := by omega
    clear ht hlenR
    rcases hd with h1 | ⟨h1, h2⟩
    · go_enter Try.func14, Try.ntmps14
      go_wp2_with fail
      refine hlist.out.mono ?_
      rintro e w1 ⟨rfl, hm1⟩
      have hq1 := Lib.hid (hm1.at hq0H.out (by simp))
      have hm1 := Lib.hid (hm0H.out.nil_then hm1)
      have hcq := cells_of hq1.out
      have hfq := frozen_of hq1.out
      clear hlist hS0H hq0H hm0H
      go_wp2_with fail
      have hq5 := (at_setCell (o := 1) (v := .slice none 0 0) (at_setCell (o := 0) (v := .int .i64 0) (hq1.out)))
      have hm5 := (((hm1.out).setCell (p := ⟨w.heap.size, 0, none⟩) (.inr (Nat.le_refl _)) (.int .i64 0)).setCell (p := ⟨w.heap.size, 1, none⟩) (.inr (Nat.le_refl _)) (.slice none 0 0))
      refine bodyPost_ret (ret_cell_tmp Try.results14 rfl rfl hq5 Try.underlying31 rfl (by kernel_rfl)) rfl ?_
      exact look_bad htH.out rfl hm5
    · go_enter Try.func14, Try.ntmps14
      go_wp2_with fail
      refine hlist.out.mono ?_
      rintro e w1 ⟨rfl, hm1⟩
      have hq1 := Lib.hid (hm1.at hq0H.out (by simp))
      have hm1 := Lib.hid (hm0H.out.nil_then hm1)
      have hcq := cells_of hq1.out
      have hfq := frozen_of hq1.out
      clear hlist hS0H hq0H hm0H
      go_wp2_with fail
      have hq5 := (at_setCell (o := 1) (v := .slice none 0 0) (at_setCell (o := 0) (v := .int .i64 0) (hq1.out)))
      have hm5 := (((hm1.out).setCell (p := ⟨w.heap.size, 0, none⟩) (.inr (Nat.le_refl _)) (.int .i64 0)).setCell (p := ⟨w.heap.size, 1, none⟩) (.inr (Nat.le_refl _)) (.slice none 0 0))
      refine bodyPost_ret (ret_cell_tmp Try.results14 rfl rfl hq5 Try.underlying31 rfl (by kernel_rfl)) rfl ?_
      exact look_bad htH.out rfl hm5
set_option maxHeartbeats 4000000 in
theorem lookup_nil (tag : Int) (w : World) : Calls Try.prog 14 #[.pointer none, .int .i64 tag] w (LookPost [] tag w) := by
  have hm0 := (Mod.refl [] w).alloc (.cells #[.int .i64 0, .slice none 0 0] 31)
  have hq0 := at_alloc w (.cells #[.int .i64 0, .slice none 0 0] 31)
  have hlist := Lib.hid (list_nil (w.alloc (.cells #[.int .i64 0, .slice none 0 0] 31)))
  have ht : ¬ (1 ≤ tag ∧ tag ≤ (([] : List Ty).length : Int)) := by simp; omega
  have htH := Lib.hid ht
  have hq0H := Lib.hid hq0
  have hm0H := Lib.hid hm0
  clear ht hq0 hm0
  by_cases h1 : tag < 1
  · go_enter Try.func14, Try.ntmps14
    go_wp2_with fail
    refine hlist.out.mono ?_
    rintro e w1 ⟨rfl, hm1⟩
    have hq1 := Lib.hid (hm1.at hq0H.out (by simp))
    have hm1 := Lib.hid (hm0H.out.nil_then hm1)
    have hcq := cells_of hq1.out
    have hfq := frozen_of hq1.out
    clear hlist hq0H hm0H
    go_wp2_with fail
    have hq5 := (at_setCell (o := 1) (v := .slice none 0 0) (at_setCell (o := 0) (v := .int .i64 0) (hq1.out)))
    have hm5 := (((hm1.out).setCell (p := ⟨w.heap.size, 0, none⟩) (.inr (Nat.le_refl _)) (.int .i64 0)).setCell (p := ⟨w.heap.size, 1, none⟩) (.inr (Nat.le_refl _)) (.slice none 0 0))
    refine bodyPost_ret (ret_cell_tmp Try.results14 rfl rfl hq5 Try.underlying31 rfl (by kernel_rfl)) rfl ?_
    exact look_bad htH.out rfl hm5
  · have h2 : 0 < tag := by omega
    go_enter Try.func14, Try.ntmps14
    go_wp2_with fail
    refine hlist.out.mono ?_
    rintro e w1 ⟨rfl, hm1⟩
    have hq1 := Lib.hid (hm1.at hq0H.out (by simp))
    have hm1 := Lib.hid (hm0H.out.nil_then hm1)
    have hcq := cells_of hq1.out
    have hfq := frozen_of hq1.out
    clear hlist hq0H hm0H
    go_wp2_with fail
    have hq5 := (at_setCell (o := 1) (v := .slice none 0 0) (at_setCell (o := 0) (v := .int .i64 0) (hq1.out)))
    have hm5 := (((hm1.out).setCell (p := ⟨w.heap.size, 0, none⟩) (.inr (Nat.le_refl _)) (.int .i64 0)).setCell (p := ⟨w.heap.size, 1, none⟩) (.inr (Nat.le_refl _)) (.slice none 0 0))
    refine bodyPost_ret (ret_cell_tmp Try.results14 rfl rfl hq5 Try.underlying31 rfl (by kernel_rfl)) rfl ?_
    exact look_bad htH.out rfl hm5
set_option maxHeartbeats 4000000 in
theorem rlookup_ok {rb : Nat} {R : List Ty} {w : World} {f : List Nat} (h : (regC 49 rb R).on w f) (tag : Int) :
    Calls Try.prog 28 #[.pointer (some ⟨rb, 0, none⟩), .int .i64 tag] w (LookPost R tag w) := by
  obtain ⟨sv, L, hLR, hok, h255, hH⟩ := h
  have hlenR : L.length = R.length := by rw [← hLR, List.length_map]
  have hL255 : L.length ≤ 255 := by omega
  have hm0 := (Mod.refl [] w).alloc (.cells #[.int .i64 0, .slice none 0 0] 31)
  have hq0 := at_alloc w (.cells #[.int .i64 0, .slice none 0 0] 31)
  have hS0 := (Scene.start hH).then hm0
  have hln := fun ty w => row_len (ty := ty) Try.underlying43 (hS0.row 1 rfl) w
  have hcq := cells_of hq0
  have hfq := frozen_of hq0
  have hcb := cells_of (hS0.block 0 rfl)
  have hq0H := Lib.hid hq0
  have hm0H := Lib.hid hm0
  have hS0H := Lib.hid hS0
  have hLRH := Lib.hid hLR
  have hHH := Lib.hid hH
  clear hH hok hLR hq0 hS0 hm0
  by_cases ht : 1 ≤ tag ∧ tag ≤ R.length
  · obtain ⟨h1, h2⟩ := ht
    have hk : (tag - 1).toNat < L.length := by omega
    obtain ⟨e1, e2⟩ := look_at h1 h2 hLRH.out hk
    have e1H := Lib.hid e1
    have e2H := Lib.hid e2
    have hn : (((tag - 1).toNat : Nat) : Int) = tag - 1 := by omega
    have hlenH := Lib.hid hlenR
    clear e1 e2 hlenR
    generalize hkk : (tag - 1).toNat = k at *
    obtain ⟨g, cap, rfl, hg, r0, r1⟩ := ty_cells (hS0H.out.row 1 rfl) rfl hk
    have htk : tag = k + 1 := by omega
    have hle : (k : Int) + 1 ≤ L.length := by omega
    clear hkk hn h1 h2
    subst htk
    have hF := Lib.hid (scene_fields 2 (Scene.start hHH.out) rfl _ (List.getElem_mem hk))
    have hsl : ∃ a m c, L[k].2 = .slice a m c := by
      rcases hF.out with ⟨h, _⟩ | ⟨_, _, _, h, _⟩ <;> exact ⟨_, _, _, h⟩
    obtain ⟨va, vm, vc, hv⟩ := hsl
    rw [hv] at r1
    have hvH := Lib.hid hv
    clear hv
    go_enter Try.func28, Try.ntmps28
    go_wp2_with fail
    refine bodyPost_ret (ret_cell_tmp Try.results28 rfl rfl (at_alloc w (.cells #[.int .i64 L[k].1.1, .slice va vm vc] 31 (0, 0))) Try.underlying31 rfl (by kernel_rfl)) rfl ?_
    unfold LookPost
    rw [e1H.out, e2H.out]
    have hF' := hF.out
    rw [hvH.out] at hF'
    exact ⟨.slice va vm vc, rfl, hF'.mod ((Mod.refl [] w).alloc _), (Mod.refl [] w).alloc _⟩
  · have htH := Lib.hid ht
    have hd : tag < 1 ∨ (¬ tag < 1 ∧ (L.length : Int) < tag) := by omega
    clear ht hlenR
    rcases hd with h1 | ⟨h1, h2⟩
    · go_enter Try.func28, Try.ntmps28
      go_wp2_with fail
      refine bodyPost_ret (ret_cell_tmp Try.results28 rfl rfl hq0H.out Try.underlying31 rfl (by kernel_rfl)) rfl ?_
      exact look_bad htH.out rfl hm0H.out
    · go_enter Try.func28, Try.ntmps28
      go_wp2_with fail
      refine bodyPost_ret (ret_cell_tmp Try.results28 rfl rfl hq0H.out Try.underlying31 rfl (by kernel_rfl)) rfl ?_
      exact look_bad htH.out rfl hm0H.out
end Go.Proofs.Ytkkjlioigdpacaa
