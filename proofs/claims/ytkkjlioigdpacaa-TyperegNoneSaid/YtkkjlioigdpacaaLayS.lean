/- Layouts: Count, Size, Place. -/
import Derived.Test.YtkkjlioigdpacaaLayC
namespace Go.Proofs.Ytkkjlioigdpacaa
open Go Go.RowKit Go.Stg

theorem firstErr_zero {fs : List Fld} (h : firstErr fs = 0) : Good fs := by
  induction fs with
  | nil => intro f hf; simp at hf
  | cons f r ih =>
    unfold firstErr at h
    by_cases he : errF f = 0
    · rw [if_neg (by simp [he])] at h
      intro g hg
      rcases List.mem_cons.1 hg with rfl | hg
      · exact he
      · exact ih h g hg
    · rw [if_pos he] at h
      exact absurd h he
theorem errT_zero {len : Int} {fs : List Fld} (h : errT len fs = 0) : 0 ≤ len ∧ len ≤ 65536 ∧ fs.length ≤ 32 ∧ Good fs ∧ sizeT len fs ≤ 65536 ∧ (0 < len → fs.length = 1) ∧ (len = 0 → 0 < fs.length) := by
  unfold errT at h
  split at h
  · simp at h
  · split at h
    · simp at h
    · split at h
      · simp at h
      · rename_i hb
        split at h
        · simp at h
        · split at h
          · rename_i h5; exact absurd h h5
          · rename_i h5
            split at h
            · simp at h
            · have hg := firstErr_zero (Decidable.byContradiction h5)
              refine ⟨by omega, by omega, by omega, hg, by omega, fun hp => ?_, fun h0 => ?_⟩
              · exact Decidable.byContradiction fun hc => hb (.inr ⟨hp, hc⟩)
              · exact Nat.pos_of_ne_zero fun hc => hb (.inl ⟨h0, hc⟩)
def countT (len : Int) (fs : List Fld) : Int := if errT len fs = 0 then (if 0 < len then len else fs.length) else 0
def sizeV (len : Int) (fs : List Fld) : Value := .tuple #[.int .i64 (if errT len fs = 0 then sizeT len fs else 0), .int .i64 (errT len fs)]
def placeC (len : Int) (fs : List Fld) (i : Int) : Array Value :=
  if errT len fs = 0 ∧ 0 ≤ i ∧ i < countT len fs then (if 0 < len then #[.int .i64 (i * wid (hd fs)), .int .i64 (wid (hd fs)), .int .i64 (hd fs).1] else outC fs i fs.length) else #[.int .i64 0, .int .i64 0, .int .i64 0]
def placeE (len : Int) (fs : List Fld) (i : Int) : Int := if errT len fs = 0 then (if 0 ≤ i ∧ i < countT len fs then 0 else 6) else errT len fs
def placeV (len : Int) (fs : List Fld) (i : Int) : Value := .tuple #[.agg (placeC len fs i), .int .i64 (placeE len fs i)]
theorem hd_eq {fs : List Fld} (h : fs.length = 1) : hd fs = fs[0]'(by omega) := by
  cases fs with
  | nil => simp at h
  | cons f r => rfl
end Go.Proofs.Ytkkjlioigdpacaa
