/- The pool: what each of its functions computes, for items of one cell. -/
import Derived.Test.YtcdmapllligjhaaProg
import Derived.Test.YtcdmapllligjhaaBase
import Derived.StillTailTactics
import Derived.WalkSpells
namespace Go.Proofs.Ytcdmapllligjhaa
open Go Go.RowKit Go.Stg

/-- The list without its item i, the last one in its place. -/
def takeAt {α : Type} (l : List α) (i : Nat) (h : 0 < l.length) : List α := (l.set i l[l.length - 1]).dropLast
theorem takeAt_length {α : Type} (l : List α) (i : Nat) (h : 0 < l.length) : (takeAt l i h).length = l.length - 1 := by simp [takeAt]

theorem info_int : (Try.prog.info? 3).map (fun i => (i.zero, i.size, i.bytes)) = some (some (.int .i64 0), 1, 8) := by kernel_rfl
theorem info_string : (Try.prog.info? 9).map (fun i => (i.zero, i.size, i.bytes)) = some (some (.string ⟨#[]⟩), 1, 16) := by kernel_rfl

/-- A pool at block b whose slice is sv: its cells. -/
structure PoolAt (T e : TypeId) (w : World) (b : Nat) (sv : Value) (cs : List Value) : Prop where
  blk : w.heap[b]? = some (.cells #[sv] T (0, 0))
  row : w.ownsRow 0 e 1 sv cs.length cs
  ne : sv.ownBlock ≠ some b
  len : cs.length ≤ 1000000
theorem PoolAt.mod {T e : TypeId} {S : List Nat} {w w' : World} {b : Nat} {sv : Value} {cs : List Value} (h : PoolAt T e w b sv cs) (hm : Mod S w w') (hS : ∀ x, x ∈ b :: sv.ownBlock.toList → x ∉ S) : PoolAt T e w' b sv cs :=
  ⟨hm.at h.blk (hS b (by simp)), row_mod h.row hm (fun g hg => hS g (by simp [hg])), h.ne, h.len⟩

theorem cell_mod {S : List Nat} {w w' : World} {b o : Nat} (hm : Mod S w w') (hb : b < w.heap.size) (hS : b ∉ S) : w'.cell? ⟨b, o, none⟩ = w.cell? ⟨b, o, none⟩ :=
  World.cell?_of_block (a := ⟨b, o, none⟩) (hm.block b hb hS)
theorem frozen_mod {S : List Nat} {w w' : World} {b o : Nat} (hm : Mod S w w') (hb : b < w.heap.size) (hS : b ∉ S) : w'.frozen? ⟨b, o, none⟩ = w.frozen? ⟨b, o, none⟩ :=
  World.frozen?_of_block (a := ⟨b, o, none⟩) (hm.block b hb hS)
theorem row_shrink {w : World} {base e g cap n m : Nat} {cs : List Value} (h : w.ownsRow base e 1 (.slice (some ⟨g, 0, none⟩) n cap) n cs) (hm : m ≤ n) : w.ownsRow base e 1 (.slice (some ⟨g, 0, none⟩) m cap) m (cs.take m) := by
  have hl := h.1
  rcases h.2 with ⟨h, _⟩ | ⟨g', cap', cur, h1, h2, h3, h4, h5, h6, h7⟩
  · simp at h
  · simp at h1
    obtain ⟨rfl, rfl⟩ := h1
    refine ⟨by simp; omega, .inr ⟨g, cap, cur, rfl, h2, h3, by omega, h5, h6, ?_⟩⟩
    rw [← h7, List.take_take]
    congr 1
    omega
theorem take_map {α : Type} (f : α → Value) (xs : List α) (i : Nat) (h : 0 < xs.length) (z : Value) :
    (((xs.map f).set i (f xs[xs.length - 1])).set (xs.length - 1) z).take (xs.length - 1) = (takeAt xs i h).map f := by
  unfold takeAt
  rw [List.dropLast_eq_take, List.length_set, List.map_take, List.map_set]
  apply List.ext_getElem?
  intro k
  simp only [List.getElem?_take]
  split
  · rw [List.getElem?_set_ne (by omega)]
  · rfl

/-- Behind a call that changed a pool. -/
def PoolPost (T e : TypeId) (v : Value) (b : Nat) (sv : Value) (cs : List Value) (w : World) (e' : Ending) (w' : World) : Prop :=
  ∃ sv', e' = .returned v ∧ Mod (b :: sv.ownBlock.toList) w w' ∧ PoolAt T e w' b sv' cs ∧ ∀ x, sv'.ownBlock = some x → sv.ownBlock = some x ∨ w.heap.size ≤ x

/-- A slice that came in, of elements of one cell. -/
def SliceIn (w : World) (sv : Value) (cs : List Value) : Prop :=
  (sv = .slice none 0 0 ∧ cs = []) ∨ ∃ sb so cap, sv = .slice (some ⟨sb, so, none⟩) cs.length cap ∧ sb < w.heap.size ∧ ∀ j u, cs[j]? = some u → w.cell? ⟨sb, so + j, none⟩ = some u
theorem add_at (b o j : Nat) : (⟨b, o, none⟩ : Addr).add j = ⟨b, o + j, none⟩ := by unfold Addr.add; split <;> simp_all
/-- Behind a call that made a slice. -/
def MadePost (e : TypeId) (cs : List Value) (w : World) (e' : Ending) (w' : World) : Prop :=
  ∃ sv', e' = .returned sv' ∧ Mod [] w w' ∧ w'.ownsRow 0 e 1 sv' cs.length cs ∧ ∀ x, sv'.ownBlock = some x → w.heap.size ≤ x
/-- Behind a call that made a pool. -/
def NewPost (T e : TypeId) (cs : List Value) (w : World) (e' : Ending) (w' : World) : Prop :=
  ∃ b sv, e' = .returned (.pointer (some ⟨b, 0, none⟩)) ∧ Mod [] w w' ∧ PoolAt T e w' b sv cs ∧ w.heap.size ≤ b ∧ ∀ x, sv.ownBlock = some x → w.heap.size ≤ x
theorem CloneI_nil (w : World) : Calls Try.prog 61 #[.slice none 0 0] w (MadePost 3 [] w) := by
  have hnil := fun w => Lib.run_eql_slice_nil (P := Try.prog) w 67 3 none 0 0 0 0 Try.underlying67
  simp only [Option.isNone_none] at hnil
  go_enter Try.func61, Try.ntmps61
  go_wp2
  go_ret
  exact ⟨_, rfl, Mod.refl _ _, World.ownsRow_nil _ _ _ _, by simp [Value.ownBlock]⟩
theorem CloneI_some (sb so cap : Nat) (cs : List Value) (w : World) (hb : sb < w.heap.size) (hc : ∀ j u, cs[j]? = some u → w.cell? ⟨sb, so + j, none⟩ = some u) (h1 : ∀ u ∈ cs, u.oneCell' = true) (hlen : cs.length ≤ 1000000) :
    Calls Try.prog 61 #[.slice (some ⟨sb, so, none⟩) cs.length cap] w (MadePost 3 cs w) := by
  obtain ⟨i0, hi, hz0, hz1, hz2⟩ := info_parts info_int
  have hnil := fun w => Lib.run_eql_slice_nil (P := Try.prog) w 67 3 (some ⟨sb, so, none⟩) cs.length cap 0 0 Try.underlying67
  simp only [Option.isNone_some] at hnil
  have hown : (w.alloc (.cells #[] 3 (0, 0))).ownsRow 0 3 1 (.slice (some ⟨w.heap.size, 0, none⟩) 0 0) 0 [] := World.ownsRow_made w #[] 0 (Nat.zero_le _) (Nat.zero_le _) rfl
  have hcA : ∀ j u, cs[j]? = some u → (w.alloc (.cells #[] 3 (0, 0))).cell? ((⟨sb, so, none⟩ : Addr).add j) = some u := fun j u h => by
    rw [add_at]
    exact (World.cell?_of_block (a := ⟨sb, so + j, none⟩) (RowKit.Below.heap_alloc _ _ _ hb)).trans (hc j u h)
  have h63 : 0 + cs.length ≤ maxLen := by unfold maxLen; omega
  have hby : (0 + cs.length) * 8 ≤ 140737488355328 := by omega
  have HC := Lib.hid hcA
  clear hcA hc
  go_enter Try.func61, Try.ntmps61
  go_wp2_with (first | (at_builtin; refine wpList_append_row _ rfl _ _ 67 rfl 3 i0 (.int .i64 0) 1 8 Try.underlying67 hi hz0 hz1 hz2 rfl (by decide) (.slice (some ⟨w.heap.size, 0, none⟩) 0 0) 0 [] rfl hown ⟨sb, so, none⟩ cs.length cap cs rfl (by simp) HC.out h1 h63 hby ?_; intro v' w1 hown1 hgrow hfr))
  go_ret
  have hown2 : w1.ownsRow 0 3 1 v' cs.length cs := by simpa using hown1
  refine ⟨v', rfl, ((Mod.refl [] w).alloc _).grown hgrow (fun k hk => .inr ?_), hown2, fun x hx => ?_⟩
  · have hk' : some w.heap.size = some k := hk
    have := Option.some.inj hk'; omega
  · rcases hfr x hx with h | h
    · have hk' : some w.heap.size = some x := h
      have := Option.some.inj hk'; omega
    · simp at h; omega
theorem NewI_made (sv : Value) (cs : List Value) (w : World) (hlen : cs.length ≤ 1000000) (h : Calls Try.prog 61 #[sv] w (MadePost 3 cs w)) (hs : ∃ a n c, sv = .slice a n c) : Calls Try.prog 51 #[sv] w (NewPost 124 3 cs w) := by
  obtain ⟨a, n, c, rfl⟩ := hs
  have H := Lib.hid h
  clear h
  go_enter Try.func51, Try.ntmps51
  go_wp2_with fail
  refine H.out.mono ?_
  rintro e w1 ⟨sv', rfl, hm, hrow, hfr⟩
  have hsv : ∃ a n c, sv' = .slice a n c := by
    rcases row_cases hrow with ⟨h, _⟩ | ⟨g, cap, h, _⟩
    · exact ⟨_, _, _, h⟩
    · exact ⟨_, _, _, h⟩
  obtain ⟨a', n', c', rfl⟩ := hsv
  go_wp2_with fail
  go_ret
  refine ⟨w1.heap.size, _, rfl, hm.alloc _, ⟨at_alloc _ _, row_mod hrow ((Mod.refl [] _).alloc _) (by simp), ?_, hlen⟩, hm.size, hfr⟩
  intro e
  have := (hrow.lt _ e).2
  omega
theorem LenI_nil (w : World) : Calls Try.prog 62 #[.pointer none] w fun e w' => e = .returned (.int .i64 0) ∧ Mod [] w w' := by
  go_enter Try.func62, Try.ntmps62
  go_wp2
  go_ret
  exact ⟨rfl, Mod.refl _ _⟩
theorem LenI_any (b : Nat) (sv : Value) (cs : List Value) (w : World) (h : PoolAt 124 3 w b sv cs) : Calls Try.prog 62 #[.pointer (some ⟨b, 0, none⟩)] w fun e w' => e = .returned (.int .i64 cs.length) ∧ Mod [] w w' := by
  have hcb := cells_of h.blk
  have hln := fun ty w => row_len (ty := ty) Try.underlying67 h.row w
  go_enter Try.func62, Try.ntmps62
  go_wp2
  go_ret
  exact ⟨rfl, Mod.refl _ _⟩
theorem TakeI_nil (d : Int) (w : World) : Calls Try.prog 53 #[.pointer none, .int .u64 d] w fun e w' => e = .returned (.tuple #[.int .i64 0, .bool false]) ∧ Mod [] w w' := by
  go_enter Try.func53, Try.ntmps53
  go_wp2_with (go_at_call 62; refine (LenI_nil _).mono ?_; rintro e w1 ⟨rfl, hm1⟩)
  go_ret2
  exact ⟨rfl, hm1⟩
theorem TakeI_none (d : Int) (b : Nat) (sv : Value) (w : World) (h : PoolAt 124 3 w b sv []) : Calls Try.prog 53 #[.pointer (some ⟨b, 0, none⟩), .int .u64 d] w fun e w' => e = .returned (.tuple #[.int .i64 0, .bool false]) ∧ Mod [] w w' := by
  have H := Lib.hid (LenI_any b sv [] w h)
  clear h
  go_enter Try.func53, Try.ntmps53
  go_wp2_with (go_at_call 62; refine H.out.mono ?_; rintro e w1 ⟨rfl, hm1⟩)
  go_ret2
  exact ⟨rfl, hm1⟩
set_option maxHeartbeats 1000000 in
theorem TakeI_some (d : Int) (hd : 0 ≤ d) (hd2 : d ≤ 18446744073709551615) (b : Nat) (sv : Value) (xs : List Int) (w : World) (h : PoolAt 124 3 w b sv (xs.map (.int .i64))) (hn : 0 < xs.length) (i : Nat) (hi : d % xs.length = i) (hil : i < xs.length) :
    Calls Try.prog 53 #[.pointer (some ⟨b, 0, none⟩), .int .u64 d] w (PoolPost 124 3 (.tuple #[.int .i64 xs[i], .bool true]) b sv ((takeAt xs i hn).map (.int .i64)) w) := by
  have H := Lib.hid (LenI_any b sv _ w h)
  obtain ⟨hb, hrow, hne, hlen⟩ := h
  simp only [List.length_map] at hrow hlen H
  have hlb := lt_of hb
  obtain ⟨g, cap, rfl, _, hg⟩ := row_pos hrow hn
  have hgb : g ≠ b := fun e => hne (by rw [← e]; rfl)
  have hHI := Lib.hid hi
  have hi0 : d % xs.length = i := hi
  clear hi
  go_enter Try.func53, Try.ntmps53
  go_wp2_with fail
  refine H.out.mono ?_
  rintro e w1 ⟨rfl, hm1⟩
  have hb1 := hm1.at hb (by simp)
  have hrow1 := row_mod hrow hm1 (by simp)
  have hcb := cells_of hb1
  have hg1 := hm1.lt hg
  have hlc : xs.length ≤ cap := by
    rcases row_cases hrow with ⟨h, _⟩ | ⟨g', cap', h, _, _, h2, _⟩
    · simp at h
    · simp at h
      obtain ⟨rfl, rfl⟩ := h
      exact h2
  have hcell := fun j (hj : j < xs.length) => hrow1.cellAt j (by omega)
  have c1 := hcell i hil
  have c2 := hcell (xs.length - 1) (by omega)
  have hf := fun j => hrow1.frozenAt j
  simp only [List.getElem?_map, List.getElem?_eq_getElem hil, List.getElem?_eq_getElem (show xs.length - 1 < xs.length by omega), Option.map_some] at c1 c2
  clear hcell H
  have hne0 : ((xs.length : Int) == 0) = false := by simp only [beq_eq_false_iff_ne]; omega
  go_wp2_with fail
  clear hHI
  have k1 := GW.cells (S := []) hb1 (by simp)
  have k2 := GW.cell1 (S := []) c1 hg1 (by simp)
  have k3 := GW.cell1 (S := []) c2 hg1 (by simp)
  clear hcb
  refine wp_region_pure (by kernel_rfl) (by kernel_rfl) ?_
  refine stage_quiet 14 (by kernel_rfl) ?_
  simp only [List.take_succ_cons, List.take_zero, List.drop_succ_cons, List.drop_zero]
  repeat (go_big_quiet_step (fail))
  refine wpQuiet_nil ?_
  refine stage_store (p := ⟨g, i, none⟩) (u := .int .i64 xs[xs.length - 1]) (fun w => w.setCell ⟨g, i, none⟩ (.int .i64 xs[xs.length - 1])) rfl rfl (by kernel_rfl) rfl rfl rfl (fun w hw => ?_) (fun w2 hm2 => ?_)
  · have c1 := (cell_mod hw hg1 (by simp)).trans c1
    have f1 := (frozen_mod hw hg1 (by simp)).trans (hf i)
    clear k1 k2 k3 hf
    go_simp
  · have hb2 := (hm1.nil_then hm2).at hb (by simp)
    have hrow2 := row_mod hrow1 hm2 (by simp)
    have hg2 := hm2.lt hg1
    obtain ⟨hrow3, hgr3⟩ := hrow2.stored i (.int .i64 xs[xs.length - 1])
    have hmm := hm1.nil_then hm2
    clear k1 k2 k3 hf c1 c2 hb1 hrow1 hm1 hm2
    have hb3 := at_setCell_other (a := ⟨g, i, none⟩) (v := .int .i64 xs[xs.length - 1]) hb2 (by simp; omega)
    have hm3 := ((hmm.mono (T := [b, g]) (by simp))).setCell (p := ⟨g, i, none⟩) (.inl (by simp)) (.int .i64 xs[xs.length - 1])
    have hg3 := hg2
    have hg3 : g < (w2.setCell ⟨g, i, none⟩ (.int .i64 xs[xs.length - 1])).heap.size := by simpa [World.setCell] using hg2
    generalize w2.setCell ⟨g, i, none⟩ (.int .i64 xs[xs.length - 1]) = w3 at *
    clear hb2 hrow2 hg2 hmm
    have c3 := hrow3.cellAt (xs.length - 1) (by omega)
    have f3 := hrow3.frozenAt (xs.length - 1)
    have hcb := cells_of hb3
    have hfb := frozen_of hb3
    have hc3 : ∃ u, w3.cell? ⟨g, xs.length - 1, none⟩ = some u := ⟨_, by rw [c3]; exact List.getElem?_eq_getElem (by simp; omega)⟩
    obtain ⟨u, hu⟩ := hc3
    have hn1 : ((xs.length : Int) - 1).toNat = xs.length - 1 := by omega
    clear c3
    go_wp2_with fail
    go_ret2
    obtain ⟨hrow5, _⟩ := hrow3.stored (xs.length - 1) (.int .i64 0)
    have hb5 := at_setCell_other (a := ⟨g, xs.length - 1, none⟩) (v := .int .i64 0) hb3 (by simp; omega)
    have hm5 := hm3.setCell (p := ⟨g, xs.length - 1, none⟩) (.inl (by simp)) (.int .i64 0)
    refine ⟨_, rfl, hm5.setCell (.inl (by simp)) _, ⟨at_setCell (o := 0) hb5, ?_, ?_, ?_⟩, fun x hx => .inl hx⟩
    · have h6 := row_mod hrow5 ((Mod.refl [b] _).setCell (p := ⟨b, 0, none⟩) (.inl (by simp)) (.slice (some ⟨g, 0, none⟩) (xs.length - 1) cap)) (fun x hx => by simp [Value.ownBlock] at hx; subst hx; simpa using hgb)
      have h7 := row_shrink h6 (Nat.sub_le xs.length 1)
      rw [take_map (.int .i64) xs i hn (.int .i64 0)] at h7
      rw [List.length_map, takeAt_length]
      exact h7
    · simpa [Value.ownBlock] using hgb
    · rw [List.length_map, takeAt_length]; omega

theorem PutI_nil (x : Int) (w : World) : Calls Try.prog 52 #[.pointer none, .int .i64 x] w fun e w' => e = .returned (.tuple #[]) ∧ Mod [] w w' := by
  go_enter Try.func52, Try.ntmps52
  go_wp2
  go_end0
  exact ⟨rfl, Mod.refl _ _⟩
theorem PutI_any (x : Int) (b : Nat) (sv : Value) (cs : List Value) (w : World) (h : PoolAt 124 3 w b sv cs) (hlen : cs.length < 1000000) :
    Calls Try.prog 52 #[.pointer (some ⟨b, 0, none⟩), .int .i64 x] w (PoolPost 124 3 (.tuple #[]) b sv (cs ++ [.int .i64 x]) w) := by
  obtain ⟨i0, hi, hz0, hz1, hz2⟩ := info_parts info_int
  obtain ⟨hb, hrow, hne, hlen'⟩ := h
  have hlb := lt_of hb
  have hcb := cells_of hb
  have hbA := at_alloc_old (o := .cells #[.int .i64 x] 3 (0, 0)) hb
  have h63 : cs.length + 1 ≤ maxLen := sized63 (Nat.le_refl _) hlen'
  have hby : (cs.length + 1) * 8 ≤ 140737488355328 := sized (Nat.le_refl _) hlen' (by omega)
  go_enter Try.func52, Try.ntmps52
  go_wp2_with (first | (at_builtin; refine wpList_append_row _ rfl _ _ 67 rfl 3 i0 (.int .i64 0) 1 8 Try.underlying67 hi hz0 hz1 hz2 rfl (by decide) sv cs.length cs rfl (hrow.alloc _) ⟨w.heap.size, 0, none⟩ 1 1 [.int .i64 x] rfl rfl (cells1 _ _ _) (by simp [Value.oneCell']) h63 hby ?_; intro v' w1 hown1 hgrow hfr; obtain ⟨g', cap', rfl, _, _⟩ := row_pos hown1 (by omega); have hm1 := ((Mod.refl (b :: sv.ownBlock.toList) w).alloc (.cells #[.int .i64 x] 3 (0, 0))).grown hgrow (by intro k hk; left; simp [hk]); have hbx := (((Mod.refl sv.ownBlock.toList (w.alloc (.cells #[.int .i64 x] 3 (0, 0)))).grown hgrow (by intro k hk; left; simp [hk])).at hbA (by simpa using hne)); have hcb1 := cells_of hbx; have hfb1 := frozen_of hbx))
  go_end0
  have hgb : g' ≠ b := by
    rcases hfr g' rfl with h | h
    · intro e; exact hne (by rw [h, e])
    · simp at h; omega
  refine ⟨_, rfl, hm1.setCell (.inl (by simp)) _, ⟨at_setCell (o := 0) hbx, ?_, ?_, by simp; omega⟩, fun x hx => (hfr x hx).imp id (fun h => by simp at h; omega)⟩
  · have := row_mod hown1 ((Mod.refl [b] _).setCell (p := ⟨b, 0, none⟩) (.inl (by simp)) (.slice (some ⟨g', 0, none⟩) (cs.length + 1) cap')) (fun k hk => by simp [Value.ownBlock] at hk; subst hk; simpa using hgb)
    simpa using this
  · simpa [Value.ownBlock] using hgb
end Go.Proofs.Ytcdmapllligjhaa
