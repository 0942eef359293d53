/- PoolKinds: three pools side by side. -/
import Derived.Test.YtnlfcfobdefflaaPoolTake
import Derived.Test.YtnlfcfobdefflaaPoolPut
namespace Go.Proofs.Ytnlfcfobdefflaa
open Go Go.RowKit Go.Stg

def Foot (b : Nat) (sv : Value) : List Nat := b :: sv.ownBlock.toList
def Apart (A B : List Nat) : Prop := ∀ x, x ∈ A → x ∉ B
def Fresh (n : Nat) (A : List Nat) : Prop := ∀ x, x ∈ A → n ≤ x
def Under (n : Nat) (A : List Nat) : Prop := ∀ x, x ∈ A → x < n
theorem Apart.symm {A B : List Nat} (h : Apart A B) : Apart B A := fun x hx hy => h x hy hx
theorem foot_mem {b x : Nat} {sv : Value} : x ∈ Foot b sv ↔ x = b ∨ sv.ownBlock = some x := by simp [Foot]
theorem foot_apart {b n : Nat} {s s' : Value} {B : List Nat} (hf : ∀ x, s'.ownBlock = some x → s.ownBlock = some x ∨ n ≤ x) (hA : Apart (Foot b s) B) (hB : Under n B) : Apart (Foot b s') B := by
  intro x hx hxB
  rcases foot_mem.1 hx with rfl | h
  · exact hA _ (foot_mem.2 (.inl rfl)) hxB
  · rcases hf x h with h | h
    · exact hA x (foot_mem.2 (.inr h)) hxB
    · have := hB x hxB; omega
theorem foot_fresh {b n m : Nat} {s s' : Value} (hf : ∀ x, s'.ownBlock = some x → s.ownBlock = some x ∨ n ≤ x) (hA : Fresh m (Foot b s)) (hm : m ≤ n) : Fresh m (Foot b s') := by
  intro x hx
  rcases foot_mem.1 hx with rfl | h
  · exact hA _ (foot_mem.2 (.inl rfl))
  · rcases hf x h with h | h
    · exact hA x (foot_mem.2 (.inr h))
    · omega
theorem PoolAt.under {T e : TypeId} {w : World} {b : Nat} {sv : Value} {cs : List Value} (h : PoolAt T e w b sv cs) : Under w.heap.size (Foot b sv) := by
  intro x hx
  rcases foot_mem.1 hx with rfl | hx
  · exact lt_of h.blk
  · exact (h.row.lt x hx).2
theorem PairAt.under {w : World} {b : Nat} {sv : Value} {l : List Int} (h : PairAt w b sv l) : Under w.heap.size (Foot b sv) := by
  intro x hx
  rcases foot_mem.1 hx with rfl | hx
  · exact lt_of h.blk
  · exact (h.row.lt x hx).2
theorem Under.mono {n m : Nat} {A : List Nat} (h : Under n A) (hm : n ≤ m) : Under m A := fun x hx => Nat.lt_of_lt_of_le (h x hx) hm

/-- The three pools, with their slices. -/
structure Trio (W : World) (f : Int → ByteArray) (b1 b2 b3 : Nat) (l1 l2 l3 : List Int) (s1 s2 s3 : Value) (w : World) : Prop where
  mod : Mod [] W w
  p : PoolAt 62 9 w b1 s1 (l1.map fun x => .string (f x))
  q : PairAt w b2 s2 l2
  r : PoolAt 57 3 w b3 s3 (l3.map (.int .i64))
  f1 : Fresh W.heap.size (Foot b1 s1)
  f2 : Fresh W.heap.size (Foot b2 s2)
  f3 : Fresh W.heap.size (Foot b3 s3)
  a12 : Apart (Foot b1 s1) (Foot b2 s2)
  a13 : Apart (Foot b1 s1) (Foot b3 s3)
  a23 : Apart (Foot b2 s2) (Foot b3 s3)
def Three (W : World) (f : Int → ByteArray) (b1 b2 b3 : Nat) (l1 l2 l3 : List Int) (w : World) : Prop := ∃ s1 s2 s3, Trio W f b1 b2 b3 l1 l2 l3 s1 s2 s3 w

section
variable {W w w' : World} {f : Int → ByteArray} {b1 b2 b3 : Nat} {l1 l2 l3 : List Int} {s1 s2 s3 : Value}
theorem Trio.then (h : Trio W f b1 b2 b3 l1 l2 l3 s1 s2 s3 w) (hm : Mod [] w w') : Trio W f b1 b2 b3 l1 l2 l3 s1 s2 s3 w' :=
  ⟨h.mod.nil_then hm, h.p.mod hm (by simp), h.q.mod hm (by simp), h.r.mod hm (by simp), h.f1, h.f2, h.f3, h.a12, h.a13, h.a23⟩
theorem Three.then (h : Three W f b1 b2 b3 l1 l2 l3 w) (hm : Mod [] w w') : Three W f b1 b2 b3 l1 l2 l3 w' := let ⟨s1, s2, s3, h⟩ := h; ⟨s1, s2, s3, h.then hm⟩
theorem Three.mod (h : Three W f b1 b2 b3 l1 l2 l3 w) : Mod [] W w := let ⟨_, _, _, h⟩ := h; h.mod
theorem Trio.chP (h : Trio W f b1 b2 b3 l1 l2 l3 s1 s2 s3 w) {l : List Int} {v : Value} {e : Ending} (hc : PoolPost 62 9 v b1 s1 (l.map fun x => .string (f x)) w e w') : e = .returned v ∧ Three W f b1 b2 b3 l l2 l3 w' := by
  obtain ⟨s', he, hm, hp, hs⟩ := hc
  exact ⟨he, s', s2, s3, h.mod.then hm (fun x hx => .inr (h.f1 x hx)), hp, h.q.mod hm (fun x hx => h.a12.symm x hx), h.r.mod hm (fun x hx => h.a13.symm x hx), foot_fresh hs h.f1 h.mod.size, h.f2, h.f3, foot_apart hs h.a12 h.q.under, foot_apart hs h.a13 h.r.under, h.a23⟩
theorem Trio.chQ (h : Trio W f b1 b2 b3 l1 l2 l3 s1 s2 s3 w) {l : List Int} {v : Value} {e : Ending} (hc : PairPost v b2 s2 l w e w') : e = .returned v ∧ Three W f b1 b2 b3 l1 l l3 w' := by
  obtain ⟨s', he, hm, hp, hs⟩ := hc
  exact ⟨he, s1, s', s3, h.mod.then hm (fun x hx => .inr (h.f2 x hx)), h.p.mod hm (fun x hx => h.a12 x hx), hp, h.r.mod hm (fun x hx => h.a23.symm x hx), h.f1, foot_fresh hs h.f2 h.mod.size, h.f3, (foot_apart hs h.a12.symm h.p.under).symm, h.a13, foot_apart hs h.a23 h.r.under⟩
theorem Trio.chR (h : Trio W f b1 b2 b3 l1 l2 l3 s1 s2 s3 w) {l : List Int} {v : Value} {e : Ending} (hc : PoolPost 57 3 v b3 s3 (l.map (.int .i64)) w e w') : e = .returned v ∧ Three W f b1 b2 b3 l1 l2 l w' := by
  obtain ⟨s', he, hm, hp, hs⟩ := hc
  exact ⟨he, s1, s2, s', h.mod.then hm (fun x hx => .inr (h.f3 x hx)), h.p.mod hm (fun x hx => h.a13 x hx), h.q.mod hm (fun x hx => h.a23 x hx), hp, h.f1, h.f2, foot_fresh hs h.f3 h.mod.size, h.a12, (foot_apart hs h.a13.symm h.p.under).symm, (foot_apart hs h.a23.symm h.q.under).symm⟩

theorem takeAt_map {α β : Type} (g : α → β) (l : List α) (i : Nat) (h : 0 < l.length) (h' : 0 < (l.map g).length) : takeAt (l.map g) i h' = (takeAt l i h).map g := by
  unfold takeAt
  simp [List.map_dropLast, List.map_set]
theorem Three_PutP (h : Three W f b1 b2 b3 l1 l2 l3 w) (x : Int) (hl : l2.length < 1000000) : Calls Try.prog 12 #[.pointer (some ⟨b2, 0, none⟩), .agg #[.int .i64 x, .int .i64 (-x)]] w fun e w' => e = .returned (.tuple #[]) ∧ Three W f b1 b2 b3 l1 (l2 ++ [x]) l3 w' := by
  obtain ⟨s1, s2, s3, h⟩ := h
  exact (PutP_any x b2 s2 l2 w h.q hl).mono fun e w' hc => h.chQ hc
theorem Three_PutI (h : Three W f b1 b2 b3 l1 l2 l3 w) (x : Int) (hl : l3.length < 1000000) : Calls Try.prog 13 #[.pointer (some ⟨b3, 0, none⟩), .int .i64 x] w fun e w' => e = .returned (.tuple #[]) ∧ Three W f b1 b2 b3 l1 l2 (l3 ++ [x]) w' := by
  obtain ⟨s1, s2, s3, h⟩ := h
  exact (PutI_any x b3 s3 _ w h.r (by simpa using hl)).mono fun e w' hc => h.chR (l := l3 ++ [x]) (by simpa using hc)
theorem Three_TakeS (h : Three W f b1 b2 b3 l1 l2 l3 w) (d : Int) (hd : 0 ≤ d) (hd2 : d ≤ 18446744073709551615) (hn : 0 < l1.length) (i : Nat) (hi : d % l1.length = i) (hil : i < l1.length) :
    Calls Try.prog 14 #[.pointer (some ⟨b1, 0, none⟩), .int .u64 d] w fun e w' => e = .returned (.tuple #[.string (f l1[i]), .bool true]) ∧ Three W f b1 b2 b3 (takeAt l1 i hn) l2 l3 w' := by
  obtain ⟨s1, s2, s3, h⟩ := h
  refine (TakeS_some d hd hd2 b1 s1 (l1.map f) w (by rw [List.map_map]; exact h.p) (by simpa using hn) i (by simpa using hi) (by simpa using hil)).mono fun e w' hc => h.chP (l := takeAt l1 i hn) ?_
  rw [takeAt_map f l1 i hn, List.map_map] at hc
  simp only [List.getElem_map] at hc
  exact hc
theorem Three_TakeP (h : Three W f b1 b2 b3 l1 l2 l3 w) (d : Int) (hd : 0 ≤ d) (hd2 : d ≤ 18446744073709551615) (hn : 0 < l2.length) (i : Nat) (hi : d % l2.length = i) (hil : i < l2.length) :
    Calls Try.prog 15 #[.pointer (some ⟨b2, 0, none⟩), .int .u64 d] w fun e w' => e = .returned (.tuple #[.agg #[.int .i64 l2[i], .int .i64 (-l2[i])], .bool true]) ∧ Three W f b1 b2 b3 l1 (takeAt l2 i hn) l3 w' := by
  obtain ⟨s1, s2, s3, h⟩ := h
  exact (TakeP_some d hd hd2 b2 s2 l2 w h.q hn i hi hil).mono fun e w' hc => h.chQ hc
theorem Three_TakeI (h : Three W f b1 b2 b3 l1 l2 l3 w) (ob : Obj) (d : Int) (hd : 0 ≤ d) (hd2 : d ≤ 18446744073709551615) (hn : 0 < l3.length) (i : Nat) (hi : d % l3.length = i) (hil : i < l3.length) :
    Calls Try.prog 16 #[.pointer (some ⟨b3, 0, none⟩), .int .u64 d] (w.alloc ob) fun e w' => e = .returned (.tuple #[.int .i64 l3[i], .bool true]) ∧ Three W f b1 b2 b3 l1 l2 (takeAt l3 i hn) w' ∧ w'.heap[w.heap.size]? = some ob := by
  obtain ⟨s1, s2, s3, h⟩ := h
  have hu := h.r.under
  have h := h.then ((Mod.refl [] w).alloc ob)
  refine (TakeI_some d hd hd2 b3 s3 l3 _ h.r hn i hi hil).mono fun e w' hc => ?_
  have hk := h.chR hc
  obtain ⟨s', he, hm, hp, hs⟩ := hc
  exact ⟨hk.1, hk.2, hm.at (at_alloc w ob) (fun hx => by have := hu _ hx; omega)⟩
theorem Three_noneS (h : Three W f b1 b2 b3 [] l2 l3 w) (d : Int) : Calls Try.prog 14 #[.pointer (some ⟨b1, 0, none⟩), .int .u64 d] w fun e w' => e = .returned (.tuple #[.string ⟨#[]⟩, .bool false]) ∧ Three W f b1 b2 b3 [] l2 l3 w' := by
  obtain ⟨s1, s2, s3, h⟩ := h
  exact (TakeS_none d b1 s1 w h.p).mono fun e w' hc => ⟨hc.1, s1, s2, s3, h.then hc.2⟩
theorem Three_noneP (h : Three W f b1 b2 b3 l1 [] l3 w) (d : Int) : Calls Try.prog 15 #[.pointer (some ⟨b2, 0, none⟩), .int .u64 d] w fun e w' => e = .returned (.tuple #[.agg #[.int .i64 0, .int .i64 0], .bool false]) ∧ Three W f b1 b2 b3 l1 [] l3 w' := by
  obtain ⟨s1, s2, s3, h⟩ := h
  exact (TakeP_none d b2 s2 w h.q).mono fun e w' hc => ⟨hc.1, s1, s2, s3, h.then hc.2⟩
theorem Three_noneI (h : Three W f b1 b2 b3 l1 l2 [] w) (ob : Obj) (d : Int) : Calls Try.prog 16 #[.pointer (some ⟨b3, 0, none⟩), .int .u64 d] (w.alloc ob) fun e w' => e = .returned (.tuple #[.int .i64 0, .bool false]) ∧ Three W f b1 b2 b3 l1 l2 [] w' ∧ w'.heap[w.heap.size]? = some ob := by
  obtain ⟨s1, s2, s3, h⟩ := h
  have h := h.then ((Mod.refl [] w).alloc ob)
  exact (TakeI_none d b3 s3 _ h.r).mono fun e w' hc => ⟨hc.1, ⟨s1, s2, s3, h.then hc.2⟩, hc.2.at (at_alloc w ob) (by simp)⟩
theorem Three_LenS (h : Three W f b1 b2 b3 l1 l2 l3 w) : Calls Try.prog 17 #[.pointer (some ⟨b1, 0, none⟩)] w fun e w' => e = .returned (.int .i64 l1.length) ∧ Three W f b1 b2 b3 l1 l2 l3 w' := by
  obtain ⟨s1, s2, s3, h⟩ := h
  exact (LenS_any b1 s1 _ w h.p).mono fun e w' hc => ⟨by simpa using hc.1, s1, s2, s3, h.then hc.2⟩
theorem Three_LenP (h : Three W f b1 b2 b3 l1 l2 l3 w) : Calls Try.prog 19 #[.pointer (some ⟨b2, 0, none⟩)] w fun e w' => e = .returned (.int .i64 l2.length) ∧ Three W f b1 b2 b3 l1 l2 l3 w' := by
  obtain ⟨s1, s2, s3, h⟩ := h
  exact (LenP_any b2 s2 _ w h.q).mono fun e w' hc => ⟨hc.1, s1, s2, s3, h.then hc.2⟩
theorem Three_LenI (h : Three W f b1 b2 b3 l1 l2 l3 w) : Calls Try.prog 18 #[.pointer (some ⟨b3, 0, none⟩)] w fun e w' => e = .returned (.int .i64 l3.length) ∧ Three W f b1 b2 b3 l1 l2 l3 w' := by
  obtain ⟨s1, s2, s3, h⟩ := h
  exact (LenI_any b3 s3 _ w h.r).mono fun e w' hc => ⟨by simpa using hc.1, s1, s2, s3, h.then hc.2⟩
end
end Go.Proofs.Ytnlfcfobdefflaa
