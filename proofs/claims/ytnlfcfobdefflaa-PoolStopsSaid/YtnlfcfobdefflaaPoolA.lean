/- The laws' own example: awake answers true. -/
import Derived.Test.YtnlfcfobdefflaaPool
namespace Go.Proofs.Ytnlfcfobdefflaa
open Go Go.RowKit Go.Stg

def abc : List ByteArray := [⟨#[97]⟩, ⟨#[98]⟩, ⟨#[99]⟩]
theorem newS_abc (w : World) : Calls Try.prog 9 #[.slice (some ⟨w.heap.size, 0, none⟩) 3 3] (w.alloc (.cells #[.string ⟨#[97]⟩, .string ⟨#[98]⟩, .string ⟨#[99]⟩] 9 (0, 0))) (NewPost 62 9 (abc.map Value.string) (w.alloc (.cells #[.string ⟨#[97]⟩, .string ⟨#[98]⟩, .string ⟨#[99]⟩] 9 (0, 0)))) :=
  NewS_made _ _ _ (by simp [abc]) (CloneS_some w.heap.size 0 3 (abc.map Value.string) _ (lt_of (at_alloc _ _)) (fun j u h => by
    rw [cells_of (at_alloc _ _)]
    match j, h with
    | 0, h => simpa [abc] using h
    | 1, h => simpa [abc] using h
    | 2, h => simpa [abc] using h
    | j + 3, h => simp [abc] at h) (by simp [abc, Value.oneCell']) (by simp [abc])) ⟨_, _, _, rfl⟩
theorem takeS_abc (b : Nat) (sv : Value) (w : World) (h : PoolAt 62 9 w b sv (abc.map Value.string)) : Calls Try.prog 14 #[.pointer (some ⟨b, 0, none⟩), .int .u64 4] w (PoolPost 62 9 (.tuple #[.string ⟨#[98]⟩, .bool true]) b sv ([ByteArray.mk #[97], ByteArray.mk #[99]].map Value.string) w) :=
  TakeS_some 4 (by omega) (by omega) b sv abc w h (by simp [abc]) 1 rfl (by simp [abc])
theorem awake_ok (w : World) : Calls Try.prog 8 #[] w fun e w' => e = .returned (.bool true) ∧ Mod [] w w' := by
  have H := Lib.hid (newS_abc w)
  have T := Lib.hid takeS_abc
  have L := Lib.hid LenS_any
  go_enter Try.func8, Try.ntmps8
  go_wp2_with fail
  refine H.out.mono ?_
  rintro e w1 ⟨b, sv, rfl, hm1, hp1, hb1, hs1⟩
  have hm1 := (((Mod.refl [] w).alloc (.cells #[.string ⟨#[97]⟩, .string ⟨#[98]⟩, .string ⟨#[99]⟩] 9 (0, 0)))).nil_then hm1
  have hwb : w.heap.size < (w.alloc (.cells #[.string ⟨#[97]⟩, .string ⟨#[98]⟩, .string ⟨#[99]⟩] 9 (0, 0))).heap.size := lt_of (at_alloc _ _)
  go_wp2_with fail
  refine (T.out b sv w1 hp1).mono ?_
  rintro e w2 ⟨sv2, rfl, hm2, hp2, hs2⟩
  go_wp2_with fail
  refine (L.out b sv2 _ w2 hp2).mono ?_
  rintro e w3 ⟨rfl, hm3⟩
  go_wp2_with fail
  go_ret
  refine ⟨rfl, (hm1.then hm2 (fun x hx => .inr ?_)).nil_then hm3⟩
  rcases List.mem_cons.1 hx with rfl | hx
  · omega
  · have := hs1 x (by simpa using hx); omega
end Go.Proofs.Ytnlfcfobdefflaa
