/- Bytes, numbers as values. -/
import Derived.Test.YtmnfehbnjgmgjaaDoorSee
namespace Go.Proofs.YtmnfehbnjgmgjaaDoor
set_option linter.all false
open Go.RowKit
def bytesL (l : List UInt8) : List Value := l.map u8v
def intsL (l : List Int) : List Value := l.map (Value.int .i64)
theorem bytesL_one (l : List UInt8) : ∀ u ∈ bytesL l, u.oneCell' = true := by
  intro u hu; obtain ⟨x, _, rfl⟩ := List.mem_map.1 hu; rfl
theorem intsL_one (l : List Int) : ∀ u ∈ intsL l, u.oneCell' = true := by
  intro u hu; obtain ⟨x, _, rfl⟩ := List.mem_map.1 hu; rfl

theorem aput_same {κ α : Type} [DecidableEq κ] {l : List (κ × α)} {k : κ} {v : α} (h : aget l k = some v) : aput l k v = l := by
  induction l with
  | nil => simp [aget] at h
  | cons x l ih =>
    obtain ⟨k', v'⟩ := x
    simp only [aget] at h
    simp only [aput]
    split
    · rename_i e; rw [if_pos e] at h; cases h; rw [e]
    · rename_i e; rw [if_neg e] at h; rw [ih h]
end Go.Proofs.YtmnfehbnjgmgjaaDoor
