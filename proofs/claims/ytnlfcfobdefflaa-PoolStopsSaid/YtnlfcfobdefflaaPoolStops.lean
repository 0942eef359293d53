/- PoolStops: the walk of the law. -/
import Derived.Test.YtnlfcfobdefflaaPoolListed
namespace Go.Proofs.Ytnlfcfobdefflaa
open Go Go.RowKit Go.Stg
attribute [local go_sem] Oper.semAt_some

/-- A pool of numbers, and some blocks beside it. -/
def Scene (W : World) (b : Nat) (xs : List Int) (bx : List (Nat × Obj)) (w : World) : Prop :=
  ∃ sv, Mod [] W w ∧ PoolAt 57 3 w b sv (xs.map (.int .i64)) ∧ W.heap.size ≤ b ∧ (∀ x, sv.ownBlock = some x → W.heap.size ≤ x) ∧ ∀ e ∈ bx, w.heap[e.1]? = some e.2 ∧ e.1 ≠ b ∧ sv.ownBlock ≠ some e.1
theorem Scene.mod {W w : World} {b : Nat} {xs : List Int} {bx : List (Nat × Obj)} (h : Scene W b xs bx w) : Mod [] W w := let ⟨_, h, _⟩ := h; h
theorem Scene.at {W w : World} {b : Nat} {xs : List Int} {bx : List (Nat × Obj)} (h : Scene W b xs bx w) (e : Nat × Obj) (he : e ∈ bx) : w.heap[e.1]? = some e.2 := by
  obtain ⟨sv, _, _, _, _, h6⟩ := h
  exact (h6 e he).1
theorem Scene.lt {W w : World} {b : Nat} {xs : List Int} {bx : List (Nat × Obj)} (h : Scene W b xs bx w) : b < w.heap.size := by
  obtain ⟨sv, _, h2, _⟩ := h
  exact lt_of h2.blk
theorem Scene.then {W w w' : World} {b : Nat} {xs : List Int} {bx : List (Nat × Obj)} (h : Scene W b xs bx w) (hm : Mod [] w w') : Scene W b xs bx w' := by
  obtain ⟨sv, h1, h2, h3, h4, h5⟩ := h
  exact ⟨sv, h1.nil_then hm, h2.mod hm (by simp), h3, h4, fun e he => ⟨hm.at (h5 e he).1 (by simp), (h5 e he).2⟩⟩
/-- One block more. -/
theorem Scene.cons {W w : World} {b : Nat} {xs : List Int} {bx : List (Nat × Obj)} (h : Scene W b xs bx w) (o : Obj) : Scene W b xs ((w.heap.size, o) :: bx) (w.alloc o) := by
  have h0 := h.then ((Mod.refl [] w).alloc o)
  obtain ⟨sv, h1, h2, h3, h4, h5⟩ := h
  obtain ⟨sv', g1, g2, g3, g4, g5⟩ := h0
  refine ⟨sv, g1, h2.mod ((Mod.refl [] w).alloc o) (by simp), h3, h4, fun e he => ?_⟩
  rcases List.mem_cons.1 he with rfl | he
  · have := lt_of h2.blk
    exact ⟨at_alloc _ _, by show w.heap.size ≠ b; omega, fun e => by have := (h2.row.lt _ e).2; omega⟩
  · exact ⟨at_alloc_old (h5 e he).1, (h5 e he).2⟩
/-- A block that lies there, too. -/
theorem Scene.more {W w : World} {b : Nat} {xs : List Int} {bx : List (Nat × Obj)} (h : Scene W b xs bx w) (k : Nat) (o : Obj) (hk : w.heap[k]? = some o) (ho : o.isCells = false) : Scene W b xs ((k, o) :: bx) w := by
  obtain ⟨sv, h1, h2, h3, h4, h5⟩ := h
  refine ⟨sv, h1, h2, h3, h4, fun e he => ?_⟩
  rcases List.mem_cons.1 he with rfl | he
  · refine ⟨hk, fun e => ?_, fun e => ?_⟩
    · have e' : k = b := e
      subst e'
      rw [h2.blk] at hk
      cases hk
      simp [Obj.isCells] at ho
    · rcases h2.row.2 with ⟨rfl, _⟩ | ⟨g, cap, cur, rfl, _, hgb, _⟩
      · simp [Value.ownBlock] at e
      · have e' : some g = some k := e
        obtain rfl := Option.some.inj e'
        rw [hgb] at hk
        cases hk
        simp [Obj.isCells] at ho
  · exact h5 e he
/-- The block at the head takes a value. -/
theorem Scene.set {W w : World} {b k : Nat} {xs : List Int} {bx : List (Nat × Obj)} {T : TypeId} {u : Value} (h : Scene W b xs ((k, .cells #[u] T (0, 0)) :: bx) w) (hW : W.heap.size ≤ k) (hn : ∀ e ∈ bx, e.1 ≠ k) (v : Value) : Scene W b xs ((k, .cells #[v] T (0, 0)) :: bx) (w.setCell ⟨k, 0, none⟩ v) := by
  obtain ⟨sv, h1, h2, h3, h4, h5⟩ := h
  obtain ⟨g1, g2, g3⟩ := h5 _ (List.mem_cons_self ..)
  refine ⟨sv, h1.setCell (p := ⟨k, 0, none⟩) (.inr hW) v, h2.mod ((Mod.refl [k] w).setCell (p := ⟨k, 0, none⟩) (.inl (by simp)) v) (fun x hx hk => ?_), h3, h4, fun e he => ?_⟩
  · have hk' : x = k := by simpa using hk
    subst hk'
    rcases List.mem_cons.1 hx with e | hx
    · exact g2 e
    · exact g3 (by simpa using hx)
  · rcases List.mem_cons.1 he with rfl | he
    · exact ⟨at_setCell (o := 0) g1, g2, g3⟩
    · obtain ⟨f1, f2, f3⟩ := h5 e (List.mem_cons_of_mem _ he)
      exact ⟨at_setCell_other f1 (hn e he), f2, f3⟩
/-- Behind a call that changed the pool. -/
theorem Scene.pool {W w : World} {b : Nat} {xs' : List Int} {bx : List (Nat × Obj)} {r : Value} {e : Ending} {w' : World} (sv : Value) (h1 : Mod [] W w) (h3 : W.heap.size ≤ b) (h4 : ∀ x, sv.ownBlock = some x → W.heap.size ≤ x) (h5 : ∀ e ∈ bx, w.heap[e.1]? = some e.2 ∧ e.1 ≠ b ∧ sv.ownBlock ≠ some e.1)
    (h : PoolPost 57 3 r b sv (xs'.map (.int .i64)) w e w') : e = .returned r ∧ Scene W b xs' bx w' := by
  obtain ⟨sv', rfl, hm, hp, hs⟩ := h
  refine ⟨rfl, sv', h1.then hm (fun x hx => .inr ?_), hp, h3, fun x hx => ?_, fun e he => ?_⟩
  · rcases List.mem_cons.1 hx with rfl | hx
    · exact h3
    · exact h4 x (by simpa using hx)
  · rcases hs x hx with h | h
    · exact h4 x h
    · exact Nat.le_trans h1.size h
  · obtain ⟨g1, g2, g3⟩ := h5 e he
    refine ⟨hm.at g1 (fun hq => ?_), g2, fun e' => ?_⟩
    · rcases List.mem_cons.1 hq with e' | hq
      · exact g2 e'
      · exact g3 (by simpa using hq)
    · rcases hs _ e' with h | h
      · exact g3 h
      · have := lt_of g1; omega
theorem Scene_New (w : World) (bx : List (Nat × Obj)) (W : World) (hW : Mod [] W w) (hb : ∀ e ∈ bx, w.heap[e.1]? = some e.2) : Calls Try.prog 11 #[.slice none 0 0] w fun e w' => ∃ b, e = .returned (.pointer (some ⟨b, 0, none⟩)) ∧ Scene W b [] bx w' ∧ w.heap.size ≤ b :=
  (NewI_made _ [] w (by simp) (CloneI_nil w) ⟨_, _, _, rfl⟩).mono fun e w' ⟨b, sv, he, hm, hp, hb', hs⟩ => ⟨b, he, ⟨sv, hW.nil_then hm, hp, Nat.le_trans hW.size hb', fun x hx => Nat.le_trans hW.size (hs x hx), fun e he => ⟨hm.at (hb e he) (by simp), by have := lt_of (hb e he); omega, fun e' => by have := hs _ e'; have := lt_of (hb e he); omega⟩⟩, hb'⟩
theorem Scene_Put {W w : World} {b : Nat} {xs : List Int} {bx : List (Nat × Obj)} (h : Scene W b xs bx w) (x : Int) (hl : xs.length < 1000000) : Calls Try.prog 13 #[.pointer (some ⟨b, 0, none⟩), .int .i64 x] w fun e w' => e = .returned (.tuple #[]) ∧ Scene W b (xs ++ [x]) bx w' := by
  obtain ⟨sv, h1, h2, h3, h4, h5⟩ := h
  exact (PutI_any x b sv _ w h2 (by simpa using hl)).mono fun e w' hp => Scene.pool sv h1 h3 h4 h5 (by simpa using hp)
theorem Scene_Len {W w : World} {b : Nat} {xs : List Int} {bx : List (Nat × Obj)} (h : Scene W b xs bx w) : Calls Try.prog 18 #[.pointer (some ⟨b, 0, none⟩)] w fun e w' => e = .returned (.int .i64 xs.length) ∧ Scene W b xs bx w' := by
  have h0 := h
  obtain ⟨sv, h1, h2, h3, h4, h5⟩ := h
  refine (LenI_any b sv _ w h2).mono ?_
  rintro e w' ⟨rfl, hm⟩
  exact ⟨by simp, h0.then hm⟩
/-- What the pool does not hold. -/
def Off (b : Nat) (W : World) (k : Nat) : Prop := k ≠ b ∧ ∀ v, W.cell? ⟨b, 0, none⟩ = some v → v.ownBlock ≠ some k
theorem Scene_Take {W w : World} {b : Nat} {xs : List Int} {bx : List (Nat × Obj)} (h : Scene W b xs bx w) (d : Int) (hd : 0 ≤ d) (hd2 : d ≤ 18446744073709551615) (hn : 0 < xs.length) :
    Calls Try.prog 16 #[.pointer (some ⟨b, 0, none⟩), .int .u64 d] w fun e w' => ∃ i, ∃ hi : i < xs.length, e = .returned (.tuple #[.int .i64 xs[i], .bool true]) ∧ Scene W b (takeAt xs i hn) bx w' ∧ Keeps 0 (Off b) w w' ∧ KeepsOthers w w' := by
  obtain ⟨sv, h1, h2, h3, h4, h5⟩ := h
  have hpos : (0 : Int) < xs.length := by omega
  have e1 := Int.emod_nonneg d (show (xs.length : Int) ≠ 0 by omega)
  have e2 := Int.emod_lt_of_pos d hpos
  have hi : (d % xs.length).toNat < xs.length := by omega
  refine (TakeI_some d hd hd2 b sv xs w h2 hn (d % xs.length).toNat (by omega) hi).mono fun e w' hp => ?_
  obtain ⟨he, hS⟩ := Scene.pool sv h1 h3 h4 h5 hp
  refine ⟨_, hi, he, hS, ?_⟩
  obtain ⟨sv', _, hm, hp', hs⟩ := hp
  have hcb : w.cell? ⟨b, 0, none⟩ = some sv := by rw [cells_of h2.blk]; rfl
  have hcb' : w'.cell? ⟨b, 0, none⟩ = some sv' := by rw [cells_of hp'.blk]; rfl
  refine ⟨⟨hm.size, fun k cs T fr _ ha hk => ⟨hm.at hk (fun hq => ?_), ha.1, fun v hv e => ?_⟩⟩, ⟨hm.size, fun k o hk ho => hm.at hk (fun hq => ?_)⟩⟩
  · rcases List.mem_cons.1 hq with e' | hq
    · exact ha.1 e'
    · exact ha.2 sv hcb (by simpa using hq)
  · rw [hcb'] at hv
    cases hv
    rcases hs _ e with h | h
    · exact ha.2 sv hcb h
    · have := lt_of hk; omega
  · rcases List.mem_cons.1 hq with e' | hq
    · subst e'
      rw [h2.blk] at hk
      cases hk
      simp [Obj.isCells] at ho
    · rcases h2.row.2 with ⟨rfl, _⟩ | ⟨g, cap, cur, rfl, _, hgb, _⟩
      · simp [Value.ownBlock] at hq
      · have e' : k = g := by simpa [Value.ownBlock] using hq
        subst e'
        rw [hgb] at hk
        cases hk
        simp [Obj.isCells] at ho
/-- It speaks of blocks that a loop leaves alone. -/
theorem Scene.kept {W w w' : World} {b B : Nat} {xs : List Int} {bx : List (Nat × Obj)} {row : Option Nat} (h : Scene W b xs bx w) (hg : w.grownBy w' row) (hr : ∀ r, row = some r → B ≤ r ∧ ∃ o : Obj, w.heap[r]? = some o ∧ o.isCells = false) (hbx : ∀ e ∈ bx, e.1 < B) (hW : W.heap.size ≤ B) : Scene W b xs bx w' := by
  obtain ⟨sv, h1, h2, h3, h4, h5⟩ := h
  have hc : ∀ k cs T fr, w.heap[k]? = some (Obj.cells cs T fr) → w'.heap[k]? = some (Obj.cells cs T fr) := fun k cs T fr hk => (hg.block k (lt_of hk) (fun e => by
    obtain ⟨_, o, ho, hn⟩ := hr k e.symm
    rw [hk] at ho
    cases ho
    simp [Obj.isCells] at hn)).trans hk
  refine ⟨sv, h1.grown hg (fun k hk => .inr (Nat.le_trans hW (hr k hk).1)), ⟨hc _ _ _ _ h2.blk, row_same h2.row (fun g cs fr _ hk => hc _ _ _ _ hk), h2.ne, h2.len⟩, h3, h4, fun e he => ⟨(hg.block _ (lt_of (h5 e he).1) (fun e' => ?_)).trans (h5 e he).1, (h5 e he).2⟩⟩
  have := (hr _ e'.symm).1
  have := hbx e he
  omega
theorem Keeps.mono {n₀ n₁ : Nat} {Av : World → Nat → Prop} {A B : World} (h : Keeps n₀ Av A B) (hn : n₀ ≤ n₁) : Keeps n₁ Av A B :=
  ⟨h.1, fun k cs T fr hk ha hc => h.2 k cs T fr (Nat.le_trans hn hk) ha hc⟩
theorem keeps_set {n₀ b k₀ : Nat} (w : World) (v : Value) (hk : k₀ < n₀) (hb : b ≠ k₀) : Keeps n₀ (Off b) w (w.setCell ⟨k₀, 0, none⟩ v) :=
  ⟨(KeepsWalks.setCell w _ v).size, fun k cs T fr hn ha hc => ⟨at_setCell_other hc (by show k ≠ k₀; omega), ha.1, fun u hu => ha.2 u (by
    rw [← hu]
    exact (World.cell?_of_block (a := ⟨b, 0, none⟩) (RowKit.Below.heap_setCell w ⟨k₀, 0, none⟩ v b (by first | exact hb | exact Ne.symm hb))).symm)⟩⟩
theorem off_put {b B : Nat} (hB : b < B) : ∀ (W : World) (l : Nat) (o' : Obj) k, B ≤ l → Off b W k → Off b (W.putObj l o') k := by
  intro W l o' k hl ha
  refine ⟨ha.1, fun v hv => ha.2 v ?_⟩
  rw [← hv]
  exact (World.cell?_of_block (a := ⟨b, 0, none⟩) (putObj_other W o' (by show b ≠ l; omega))).symm
/-- A loop over what the pool's All returned. -/
theorem Scene_stops {W w : World} {b B : Nat} {xs : List Int} {bx : List (Nat × Obj)} (h : Scene W b xs bx w) (hB : (B, Obj.cells #[.pointer (some ⟨b, 0, none⟩)] 30 (0, 0)) ∈ bx) :
    SeqStopsK Fence.wide 4 Try.prog 27 #[.pointer (some ⟨B, 0, none⟩)] (fun x : Int => #[Value.int .i64 x]) (Keeps w.heap.size (Off b)) (fun ys => ys = xs) (fun pre => pre <+: xs) xs.length w := by
  have hbx := h.at _ hB
  obtain ⟨sv, h1, h2, h3, h4, h5⟩ := h
  have hlt := lt_of h2.blk
  refine AllI_stops 4 (by omega) B w.heap.size b (Off b) sv xs w hbx (Nat.le_refl _) h2 (fun V V2 k g1 g2 hk => ?_)
  have e1 : V2.cell? ⟨b, 0, none⟩ = some sv := by
    rw [World.cell?_of_block (a := ⟨b, 0, none⟩) (g2.block _ (Nat.lt_of_lt_of_le hlt g1.size)), World.cell?_of_block (a := ⟨b, 0, none⟩) (g1.block _ hlt), cells_of h2.blk]
    rfl
  have hs := g1.size
  refine ⟨by omega, fun v hv e => ?_⟩
  rw [e1] at hv
  cases hv
  have := (h2.row.lt k e).2
  omega
theorem upTo_get {k : Nat} {pre : List Int} {x : Int} (h : pre ++ [x] <+: upTo k) : x = pre.length := by
  obtain ⟨t, ht⟩ := h
  have h1 : (upTo k)[pre.length]? = some x := by rw [← ht]; simp
  unfold upTo at h1
  rw [List.getElem?_map] at h1
  obtain ⟨y, hy, rfl⟩ := Option.map_eq_some_iff.1 h1
  obtain ⟨hlt, e⟩ := List.getElem?_eq_some_iff.1 hy
  simp at e
  subst e
  rfl
theorem stops_close {W wz : World} {D D2 k : Nat} {a : Act} (h2 : wz.heap[D2]? = some (.deferred (some []))) (h1 : wz.heap[D]? = some (.deferred (some []))) (hr : wz.heap[k]? = some (.cells #[.bool true] 4 (0, 0))) (hm : Mod [] W wz)
    (n1 : D2 ≠ D) (n2 : k ≠ D) (n3 : k ≠ D2) (n4 : W.heap.size ≤ D) (n5 : W.heap.size ≤ D2) (hd : a.defers = [{ target := .collected D2, args := #[] }, { target := .collected D, args := #[] }]) (ht : a.tmps[6]? = some (.pointer (some ⟨k, 0, none⟩))) :
    bodyPostM Fence.wide 5 Try.prog Try.f7 (fun e w' => e = .returned (.bool true) ∧ Mod [] W w') .ret a wz := by
  unfold bodyPostM
  show LeavesInM Fence.wide 5 Try.prog Try.f7 a.tmps _ a.defers .returning wz
  rw [hd]
  refine ⟨by simp, .inl ⟨_, _, rfl, run_takeDeferred h2, ?_⟩⟩
  have g1 := (putObj_other wz (l := D2) (k := D) (.deferred none) (Ne.symm n1)).trans h1
  refine ⟨by simp, .inl ⟨_, _, rfl, run_takeDeferred g1, ?_⟩⟩
  have g2 := (putObj_other (wz.putObj D2 (.deferred none)) (l := D) (k := k) (.deferred none) n2).trans ((putObj_other wz (l := D2) (k := k) (.deferred none) n3).trans hr)
  have g3 : Mod [] W ((wz.putObj D2 (.deferred none)).putObj D (.deferred none)) :=
    (hm.grown (grownBy_putObj' wz D2 (.deferred none)) (fun j hj => .inr (by have := Option.some.inj hj; omega))).grown (grownBy_putObj' _ D (.deferred none)) (fun j hj => .inr (by have := Option.some.inj hj; omega))
  refine ⟨.bool true, ?_, rfl, g3⟩
  simp [results, Try.results7, go_sem, ht, cells_of g2]
set_option maxRecDepth 100000 in
set_option maxHeartbeats 4000000 in
theorem stops_walk (n s d : Int) (hn0 : 0 ≤ n) (hn1 : n ≤ 255) (hs0 : 0 ≤ s) (hs1 : s ≤ 255) (hd : 0 ≤ d) (hd2 : d ≤ 18446744073709551615) (w : World) : Calls Try.prog 7 #[.int .u8 n, .int .u8 s, .int .u64 d] w fun e w' => e = .returned (.bool true) ∧ Mod [] w w' := by
  refine (callsIn_wide (n := 5)).1 ?_
  refine callsIn_of_wp_marks Try.func7 rfl trivial ?_ rfl
  simp only [Try.ntmps7, List.size_toArray, List.length_cons, List.length_nil, Nat.reduceAdd, Nat.reduceSub, Array.replicate_succ, Array.replicate_zero, List.push_toArray, List.append_toArray, List.nil_append, List.cons_append]
  gi_wp2_with fail
  refine ⟨trivial, (callsIn_wide.2 (awake_ok _)).mono ?_⟩
  rintro e w1 ⟨rfl, hm1⟩
  have q0 := hm1.at (at_alloc_old (o := .cells #[.bool false] 4) (at_alloc_old (o := .cells #[.int .u64 d] 36) (at_alloc w (.cells #[.int .u8 s] 5)))) (by simp)
  have q1 := hm1.at (at_alloc_old (o := .cells #[.bool false] 4) (at_alloc (w.alloc (.cells #[.int .u8 s] 5)) (.cells #[.int .u64 d] 36))) (by simp)
  have q2 := hm1.at (at_alloc ((w.alloc (.cells #[.int .u8 s] 5)).alloc (.cells #[.int .u64 d] 36)) (.cells #[.bool false] 4)) (by simp)
  simp only [World.size_alloc] at q1 q2
  have hm1 := (((Mod.refl [] w).alloc _).alloc _).alloc (.cells #[.bool false] 4) |>.nil_then hm1
  gi_wp2_with fail
  refine ⟨trivial, (callsIn_wide.2 (Scene_New w1 [(w.heap.size, .cells #[.int .u8 s] 5 (0, 0)), (w.heap.size + 1, .cells #[.int .u64 d] 36 (0, 0)), (w.heap.size + 1 + 1, .cells #[.bool false] 4 (0, 0))] w hm1 (by simp [q0, q1, q2]))).mono ?_⟩
  rintro e w2 ⟨b, rfl, hS, hb⟩
  have hlt := lt_of q2
  clear q0 q1 q2
  gi_wp2_with fail
  have hbl := hS.lt
  have hS := hS.cons (.cells #[.pointer (some ⟨b, 0, none⟩)] 30 (0, 0))
  have hpl := lt_of (hS.at (w2.heap.size, _) (List.mem_cons_self ..))
  have hhp : w.heap.size + 1 + 1 < w2.heap.size := by omega
  have hbp : b ≠ w2.heap.size := by omega
  generalize hpB : w2.heap.size = pB at *
  generalize w2.alloc (.cells #[.pointer (some ⟨b, 0, none⟩)] 30 (0, 0)) = w3 at *
  have hk0 := Int.emod_nonneg n (show (20 : Int) ≠ 0 by omega)
  have hk1 := Int.emod_lt_of_pos n (show (0 : Int) < 20 by omega)
  obtain ⟨k, hk⟩ := Int.eq_ofNat_of_zero_le hk0
  rw [hk]
  rw [hk] at hk1
  clear hk0 hk hm1 hpB
  gi_loopw [9] (fun i wr => ∃ j : Nat, j ≤ k ∧ i = .int .i64 j ∧ Scene w b (upTo j) [(pB, .cells #[.pointer (some ⟨b, 0, none⟩)] 30 (0, 0)), (w.heap.size, .cells #[.int .u8 s] 5 (0, 0)), (w.heap.size + 1, .cells #[.int .u64 d] 36 (0, 0)), (w.heap.size + 1 + 1, .cells #[.bool false] 4 (0, 0))] wr) (fun i _ => k - (intOf i).toNat)
  case atStart => exact ⟨0, by omega, rfl, hS⟩
  case round =>
    obtain ⟨j, hj, rfl, hS2⟩ := hrel
    clear hS
    have cp := cells_of (hS2.at (pB, _) (List.mem_cons_self ..))
    by_cases hlt : j < k
    · gi_wp2_with fail
      refine ⟨trivial, (callsIn_wide.2 (Scene_Put hS2 j (by rw [upTo_length]; omega))).mono ?_⟩
      rintro e w4 ⟨rfl, hS4⟩
      rw [← upTo_succ] at hS4
      gi_wp2_with fail
      go_roundw
      case rel => exact ⟨j + 1, by omega, by go_num, hS4⟩
      case measure => simp [intOf]; omega
    · obtain rfl : j = k := by omega
      gi_wp2_with fail
      refine ⟨trivial, (callsIn_wide.2 (AllI_made (some ⟨b, 0, none⟩) _)).mono ?_⟩
      rintro e w4 ⟨rfl, rfl⟩
      have hS3 := hS2.cons (.cells #[.pointer (some ⟨b, 0, none⟩)] 30 (0, 0))
      have hS4 := hS3.cons (.cells #[.int .i64 0] 3 (0, 0))
      have hpw := lt_of (hS2.at (pB, _) (List.mem_cons_self ..))
      have hbw := hS2.lt
      rw [World.size_alloc] at hS4
      clear hS2 hS3 cp
      gi_wp2_with fail
      generalize haB : wr.heap.size = aB at *
      have hsz : ((wr.alloc (.cells #[.pointer (some ⟨b, 0, none⟩)] 30 (0, 0))).alloc (.cells #[.int .i64 0] 3 (0, 0))).heap.size = aB + 2 := by simp [haB]
      generalize (wr.alloc (.cells #[.pointer (some ⟨b, 0, none⟩)] 30 (0, 0))).alloc (.cells #[.int .i64 0] 3 (0, 0)) = W0 at *
      clear haB
      have hst := Scene_stops hS4 (B := aB) (by simp)
      rw [upTo_length] at hst
      have hs0 := Int.emod_nonneg s (show (25 : Int) ≠ 0 by omega)
      obtain ⟨m, hm⟩ := Int.eq_ofNat_of_zero_le hs0
      have hs1 := Int.emod_lt_of_pos s (show (0 : Int) < 25 by omega)
      rw [hm] at hs1
      refine wpIn_rangeFunc_ownG rfl (by omega) (gf := 27) (lb := #[.pointer (some ⟨aB, 0, none⟩)]) rfl trivial (enters_of Try.func27 (by kernel_rfl) rfl) hst keeps_t
        (keeps_b (off_put (by omega))) (RowKit.Below.refl _ _) (fun _ => rfl)
        (fun (pre : List Int) W => pre.length ≤ m ∧ ∃ ys : List Int, ys.length + pre.length = j ∧ Scene w b ys [(aB + 1, .cells #[.int .i64 pre.length] 3 (0, 0)), (aB, .cells #[.pointer (some ⟨b, 0, none⟩)] 30 (0, 0)), (pB, .cells #[.pointer (some ⟨b, 0, none⟩)] 30 (0, 0)), (w.heap.size, .cells #[.int .u8 s] 5 (0, 0)), (w.heap.size + 1, .cells #[.int .u64 d] 36 (0, 0)), (w.heap.size + 1 + 1, .cells #[.bool false] 4 (0, 0))] W)
        (fun c pre W => (c = .exit 2 ∧ pre.length = m + 1 ∧ ∃ ys : List Int, ys.length + pre.length = j ∧ Scene w b ys [(aB + 1, .cells #[.int .i64 pre.length] 3 (0, 0)), (aB, .cells #[.pointer (some ⟨b, 0, none⟩)] 30 (0, 0)), (pB, .cells #[.pointer (some ⟨b, 0, none⟩)] 30 (0, 0)), (w.heap.size, .cells #[.int .u8 s] 5 (0, 0)), (w.heap.size + 1, .cells #[.int .u64 d] 36 (0, 0)), (w.heap.size + 1 + 1, .cells #[.bool false] 4 (0, 0))] W) ∨ (c = .ret ∧ ¬ pre <+: upTo j))
        (fun pre A B row hs hg hr => by
          obtain ⟨h1, ys, h2, h3⟩ := hs
          exact ⟨h1, ys, h2, h3.kept hg hr (by simp; omega) (by omega)⟩)
        (fun c pre A B row hs hg hr => by
          rcases hs with ⟨h0, h1, ys, h2, h3⟩ | h
          · exact .inl ⟨h0, h1, ys, h2, h3.kept hg hr (by simp; omega) (by omega)⟩
          · exact .inr h)
        ⟨by simp, upTo j, by simp [upTo_length], hS4⟩ ?a1 ?assign ?body ?done ?stop
      case assign =>
        intro l x W K hK
        gi_wp2
        exact hK
      case body =>
        rintro l pre x W ⟨hpm, ys, hyl, hS5⟩ hlt2
        have cs := cells_of (hS5.at (aB + 1, .cells #[.int .i64 pre.length] 3 (0, 0)) (by simp))
        have fs := frozen_of (hS5.at (aB + 1, .cells #[.int .i64 pre.length] 3 (0, 0)) (by simp))
        have cr := cells_of (hS5.at (w.heap.size + 1 + 1, .cells #[.bool false] 4 (0, 0)) (by simp))
        have fr := frozen_of (hS5.at (w.heap.size + 1 + 1, .cells #[.bool false] 4 (0, 0)) (by simp))
        clear hst hS4
        by_cases hx : x = pre.length
        · subst hx
          have hS6 := hS5.set (by omega) (by simp; omega) (.int .i64 (pre.length + 1))
          have hK6 := keeps_set (b := b) (n₀ := W0.heap.size) W (.int .i64 ((pre.length : Int) + 1)) (k₀ := aB + 1) (by omega) (by omega)
          have c6 := cells_of (hS6.at (pB, .cells #[.pointer (some ⟨b, 0, none⟩)] 30 (0, 0)) (by simp))
          have d6 := cells_of (hS6.at (w.heap.size + 1, .cells #[.int .u64 d] 36 (0, 0)) (by simp))
          gi_wp2_with fail
          refine ⟨trivial, (CallsIn.inRound l (callsIn_wide.2 (Scene_Take hS6 d hd hd2 (by omega)))).mono ?_⟩
          rintro e W7 ⟨i, hi, rfl, hS7, hK7, hO7⟩
          have c7 := cells_of (hS7.at (aB + 1, .cells #[.int .i64 (pre.length + 1)] 3 (0, 0)) (by simp))
          have d7 := cells_of (hS7.at (w.heap.size, .cells #[.int .u8 s] 5 (0, 0)) (by simp))
          have hK8 := hK6.trans (hK7.mono (Nat.zero_le _))
          have hO8 := (KeepsOthers.setCell W ⟨aB + 1, 0, none⟩ (.int .i64 ((pre.length : Int) + 1))).trans hO7
          clear hS6 hK6 hK7 hO7 c6 d6 cs fs cr fr hS5
          gi_wp2_with fail
          · have hgt : (m : Int) < (pre.length : Int) + 1 := by assumption
            exact ⟨hO8.from _, .inl ⟨rfl, by simp; omega, takeAt ys i (by omega), by rw [takeAt_length]; simp; omega, by simpa using hS7⟩⟩
          · have hgt : (pre.length : Int) + 1 ≤ m := by assumption
            exact ⟨hO8.from _, hK8, by simp; omega, takeAt ys i (by omega), by rw [takeAt_length]; simp; omega, by simpa using hS7⟩
        · gi_wp2_with fail
          exact ⟨(KeepsOthers.setCell _ _ _).from _, .inr ⟨rfl, fun h => hx (upTo_get h)⟩⟩
      case done =>
        rintro D xs W hD rfl ⟨hpm, ys, hyl, hS5⟩ hK
        rw [upTo_length] at hpm hyl hS5
        have hmin : min (j : Int) ((m : Int) + 1) = j := by omega
        generalize hq : j = q at hpm hyl hS5
        have hH := Lib.hid (show ys.length + q = j ∧ min (j : Int) ((m : Int) + 1) = q from ⟨by omega, by omega⟩)
        have hX := Lib.hid hq
        clear hq hmin hyl hpm
        have hS6 := hS5.more D _ hK rfl
        clear hK hS5 hst hS4
        have c6 := cells_of (hS6.at (pB, .cells #[.pointer (some ⟨b, 0, none⟩)] 30 (0, 0)) (by simp))
        gi_wp2_with fail
        refine ⟨trivial, (callsIn_wide.2 (Scene_Len hS6)).mono ?_⟩
        rintro e W7 ⟨rfl, hS7⟩
        clear hS6 c6
        have c7 := cells_of (hS7.at (pB, .cells #[.pointer (some ⟨b, 0, none⟩)] 30 (0, 0)) (by simp))
        gi_wp2_with fail
        refine ⟨trivial, (callsIn_wide.2 (Scene_Put hS7 100 (by have := hH.out; omega))).mono ?_⟩
        rintro e W8 ⟨rfl, hS8⟩
        clear hS7 c7
        gi_wp2_with fail
        have hS9 := hS8.cons (.cells #[.int .i64 0] 3 (0, 0))
        have hb8 := hS8.lt
        have h8D := lt_of (hS8.at (D, .deferred (some [])) (by simp))
        have h8a := lt_of (hS8.at (aB + 1, .cells #[.int .i64 q] 3 (0, 0)) (by simp))
        generalize haC : W8.heap.size = aC at *
        have hsz9 : (W8.alloc (.cells #[.int .i64 0] 3 (0, 0))).heap.size = aC + 1 := by simp [haC]
        generalize W8.alloc (.cells #[.int .i64 0] 3 (0, 0)) = W9 at *
        clear hS8 haC
        have hst := Scene_stops hS9 (B := aB) (by simp)
        refine wpIn_rangeFunc_ownG rfl (by omega) (gf := 27) (lb := #[.pointer (some ⟨aB, 0, none⟩)]) rfl trivial (enters_of Try.func27 (by kernel_rfl) rfl) hst keeps_t
          (keeps_b (off_put (by omega))) (RowKit.Below.refl _ _) (fun _ => rfl)
          (fun (pre : List Int) W => Scene w b (ys ++ [100]) [(aC, .cells #[.int .i64 pre.length] 3 (0, 0)), (D, .deferred (some [])), (aB + 1, .cells #[.int .i64 q] 3 (0, 0)), (aB, .cells #[.pointer (some ⟨b, 0, none⟩)] 30 (0, 0)), (pB, .cells #[.pointer (some ⟨b, 0, none⟩)] 30 (0, 0)), (w.heap.size, .cells #[.int .u8 s] 5 (0, 0)), (w.heap.size + 1, .cells #[.int .u64 d] 36 (0, 0)), (w.heap.size + 1 + 1, .cells #[.bool false] 4 (0, 0))] W)
          (fun _ _ _ => False)
          (fun pre A B row hs hg hr => hs.kept hg hr (by simp; omega) (by omega))
          (fun _ _ _ _ _ hs _ _ => hs)
          hS9 ?a2 ?assign2 ?body2 ?done2 ?stop2
        case assign2 =>
          intro l x W K hK
          gi_wp2
          exact hK
        case stop2 =>
          intro D c pre W _ _ h
          exact h.elim
        case body2 =>
          rintro l pre x W hT hlt2
          have cs := cells_of (hT.at (aC, .cells #[.int .i64 pre.length] 3 (0, 0)) (by simp))
          have fs := frozen_of (hT.at (aC, .cells #[.int .i64 pre.length] 3 (0, 0)) (by simp))
          have hT2 := hT.set (by omega) (by simp; omega) (.int .i64 (pre.length + 1))
          clear hst hS9
          have hlt3 : pre.length < ys.length + 1 := by simpa using hlt2
          have hlt4 : pre.length < 40 := by have := hH.out; omega
          have e8 : (((pre ++ [x]).length : Nat) : Int) = (pre.length : Int) + 1 := by simp
          gi_wp2_with fail
          exact ⟨(KeepsOthers.setCell _ _ _).from _, keeps_set W (.int .i64 ((pre.length : Int) + 1)) (by omega) (by omega), by simp only [e8]; exact hT2⟩
        case done2 =>
          rintro D2 xs W hD2 rfl hT hK2
          have hT2 := hT.more D2 _ hK2 rfl
          clear hT hst hS9 hK2
          gi_wp2_with fail
          refine ⟨trivial, (callsIn_wide.2 (awake_ok _)).mono ?_⟩
          rintro e V1 ⟨rfl, hmv⟩
          have hT3 := hT2.then hmv
          clear hT2 hmv
          have c1 := cells_of (hT3.at (aB + 1, .cells #[.int .i64 q] 3 (0, 0)) (by simp))
          have c2 := cells_of (hT3.at (w.heap.size, .cells #[.int .u8 s] 5 (0, 0)) (by simp))
          have c3 := cells_of (hT3.at (aC, .cells #[.int .i64 ((ys ++ [100]).length)] 3 (0, 0)) (by simp))
          have c4 := cells_of (hT3.at (w.heap.size + 1 + 1, .cells #[.bool false] 4 (0, 0)) (by simp))
          have f4 := frozen_of (hT3.at (w.heap.size + 1 + 1, .cells #[.bool false] 4 (0, 0)) (by simp))
          rw [List.length_append, List.length_singleton] at c3
          obtain ⟨hyl, hmin⟩ := hH.out
          clear hH
          have e7 : (j : Int) - q = ys.length := by omega
          gi_wp2_with fail
          all_goals have hX1 := hX.out
          all_goals first
            | (exfalso; have h0 : ys = [] := List.eq_nil_of_length_eq_zero (by omega); exact absurd h0 (by assumption))
            | (exfalso; omega)
            | skip
          all_goals
            have k2 := at_setCell_other (a := ⟨w.heap.size + 1 + 1, 0, none⟩) (v := .bool true) (hT3.at (D2, .deferred (some [])) (by simp)) (by show D2 ≠ w.heap.size + 1 + 1; omega)
            have k1 := at_setCell_other (a := ⟨w.heap.size + 1 + 1, 0, none⟩) (v := .bool true) (hT3.at (D, .deferred (some [])) (by simp)) (by show D ≠ w.heap.size + 1 + 1; omega)
            have kr := at_setCell (o := 0) (v := .bool true) (hT3.at (w.heap.size + 1 + 1, .cells #[.bool false] 4 (0, 0)) (by simp))
            have km := hT3.mod.setCell (p := ⟨w.heap.size + 1 + 1, 0, none⟩) (.inr (by show w.heap.size ≤ w.heap.size + 1 + 1; omega)) (.bool true)
            clear hT3 c1 c2 c3 c4 f4
            simp only at k1 k2 kr
            exact stops_close k2 k1 kr km (by omega) (by omega) (by omega) (by omega) (by omega) rfl rfl
      case stop =>
        rintro D c pre W hD hpre hIx hK
        rcases hIx with ⟨rfl, hpl2, ys, hyl, hS5⟩ | ⟨rfl, hno⟩
        · have hle := hpre.length_le
          rw [upTo_length] at hle
          generalize hq : pre.length = q at hpl2 hyl hS5 hle
          have hH := Lib.hid (show ys.length + q = j ∧ min (j : Int) ((m : Int) + 1) = q from ⟨by omega, by omega⟩)
          have hX := Lib.hid hpl2
          clear hpre hq hpl2 hyl hle
          have hS6 := hS5.more D _ hK rfl
          clear hK hS5 hst hS4
          have c6 := cells_of (hS6.at (pB, .cells #[.pointer (some ⟨b, 0, none⟩)] 30 (0, 0)) (by simp))
          gi_wp2_with fail
          refine ⟨trivial, (callsIn_wide.2 (Scene_Len hS6)).mono ?_⟩
          rintro e W7 ⟨rfl, hS7⟩
          clear hS6 c6
          have c7 := cells_of (hS7.at (pB, .cells #[.pointer (some ⟨b, 0, none⟩)] 30 (0, 0)) (by simp))
          gi_wp2_with fail
          refine ⟨trivial, (callsIn_wide.2 (Scene_Put hS7 100 (by have := hH.out; omega))).mono ?_⟩
          rintro e W8 ⟨rfl, hS8⟩
          clear hS7 c7
          gi_wp2_with fail
          have hS9 := hS8.cons (.cells #[.int .i64 0] 3 (0, 0))
          have hb8 := hS8.lt
          have h8D := lt_of (hS8.at (D, .deferred (some [])) (by simp))
          have h8a := lt_of (hS8.at (aB + 1, .cells #[.int .i64 q] 3 (0, 0)) (by simp))
          generalize haC : W8.heap.size = aC at *
          have hsz9 : (W8.alloc (.cells #[.int .i64 0] 3 (0, 0))).heap.size = aC + 1 := by simp [haC]
          generalize W8.alloc (.cells #[.int .i64 0] 3 (0, 0)) = W9 at *
          clear hS8 haC
          have hst := Scene_stops hS9 (B := aB) (by simp)
          refine wpIn_rangeFunc_ownG rfl (by omega) (gf := 27) (lb := #[.pointer (some ⟨aB, 0, none⟩)]) rfl trivial (enters_of Try.func27 (by kernel_rfl) rfl) hst keeps_t
            (keeps_b (off_put (by omega))) (RowKit.Below.refl _ _) (fun _ => rfl)
            (fun (pre : List Int) W => Scene w b (ys ++ [100]) [(aC, .cells #[.int .i64 pre.length] 3 (0, 0)), (D, .deferred (some [])), (aB + 1, .cells #[.int .i64 q] 3 (0, 0)), (aB, .cells #[.pointer (some ⟨b, 0, none⟩)] 30 (0, 0)), (pB, .cells #[.pointer (some ⟨b, 0, none⟩)] 30 (0, 0)), (w.heap.size, .cells #[.int .u8 s] 5 (0, 0)), (w.heap.size + 1, .cells #[.int .u64 d] 36 (0, 0)), (w.heap.size + 1 + 1, .cells #[.bool false] 4 (0, 0))] W)
            (fun _ _ _ => False)
            (fun pre A B row hs hg hr => hs.kept hg hr (by simp; omega) (by omega))
            (fun _ _ _ _ _ hs _ _ => hs)
            hS9 ?a3 ?assign3 ?body3 ?done3 ?stop3
          case assign3 =>
            intro l x W K hK
            gi_wp2
            exact hK
          case stop3 =>
            intro D c pre W _ _ h
            exact h.elim
          case body3 =>
            rintro l pre x W hT hlt2
            have cs := cells_of (hT.at (aC, .cells #[.int .i64 pre.length] 3 (0, 0)) (by simp))
            have fs := frozen_of (hT.at (aC, .cells #[.int .i64 pre.length] 3 (0, 0)) (by simp))
            have hT2 := hT.set (by omega) (by simp; omega) (.int .i64 (pre.length + 1))
            clear hst hS9
            have hlt3 : pre.length < ys.length + 1 := by simpa using hlt2
            have hlt4 : pre.length < 40 := by have := hH.out; omega
            have e8 : (((pre ++ [x]).length : Nat) : Int) = (pre.length : Int) + 1 := by simp
            gi_wp2_with fail
            exact ⟨(KeepsOthers.setCell _ _ _).from _, keeps_set W (.int .i64 ((pre.length : Int) + 1)) (by omega) (by omega), by simp only [e8]; exact hT2⟩
          case done3 =>
            rintro D2 xs W hD2 rfl hT hK2
            have hT2 := hT.more D2 _ hK2 rfl
            clear hT hst hS9 hK2
            gi_wp2_with fail
            refine ⟨trivial, (callsIn_wide.2 (awake_ok _)).mono ?_⟩
            rintro e V1 ⟨rfl, hmv⟩
            have hT3 := hT2.then hmv
            clear hT2 hmv
            have c1 := cells_of (hT3.at (aB + 1, .cells #[.int .i64 q] 3 (0, 0)) (by simp))
            have c2 := cells_of (hT3.at (w.heap.size, .cells #[.int .u8 s] 5 (0, 0)) (by simp))
            have c3 := cells_of (hT3.at (aC, .cells #[.int .i64 ((ys ++ [100]).length)] 3 (0, 0)) (by simp))
            have c4 := cells_of (hT3.at (w.heap.size + 1 + 1, .cells #[.bool false] 4 (0, 0)) (by simp))
            have f4 := frozen_of (hT3.at (w.heap.size + 1 + 1, .cells #[.bool false] 4 (0, 0)) (by simp))
            rw [List.length_append, List.length_singleton] at c3
            obtain ⟨hyl, hmin⟩ := hH.out
            clear hH
            have e7 : (j : Int) - q = ys.length := by omega
            gi_wp2_with fail
            all_goals have hX1 := hX.out
            all_goals first
              | (exfalso; have h0 : ys = [] := List.eq_nil_of_length_eq_zero (by omega); exact absurd h0 (by assumption))
              | (exfalso; omega)
              | skip
            all_goals
              have k2 := at_setCell_other (a := ⟨w.heap.size + 1 + 1, 0, none⟩) (v := .bool true) (hT3.at (D2, .deferred (some [])) (by simp)) (by show D2 ≠ w.heap.size + 1 + 1; omega)
              have k1 := at_setCell_other (a := ⟨w.heap.size + 1 + 1, 0, none⟩) (v := .bool true) (hT3.at (D, .deferred (some [])) (by simp)) (by show D ≠ w.heap.size + 1 + 1; omega)
              have kr := at_setCell (o := 0) (v := .bool true) (hT3.at (w.heap.size + 1 + 1, .cells #[.bool false] 4 (0, 0)) (by simp))
              have km := hT3.mod.setCell (p := ⟨w.heap.size + 1 + 1, 0, none⟩) (.inr (by show w.heap.size ≤ w.heap.size + 1 + 1; omega)) (.bool true)
              clear hT3 c1 c2 c3 c4 f4
              simp only at k1 k2 kr
              exact stops_close k2 k1 kr km (by omega) (by omega) (by omega) (by omega) (by omega) rfl rfl
        · exact absurd hpre hno
end Go.Proofs.Ytnlfcfobdefflaa
