/- Manifests with their slices; their order. -/
import Derived.Test.YtkogkokmcmallaaGreatDoorWd
namespace Go.Proofs.YtkogkokmcmallaaGreatDoor
set_option linter.all false
open Go.RowKit
variable {g w : World} {L M : List HP} {ad : Nat → Addr} {p : Nat}

theorem satX.perm {w : World} {L M : List HP} (h : L.Perm M) : ∀ X, satX w L X → satX w M X := by
  induction h with
  | nil => exact fun _ h => h
  | cons x _ ih => rintro X ⟨F, h1, h2, h3⟩; exact ⟨F, h1, h2, ih _ h3⟩
  | swap x y l => rintro X ⟨F, h1, h2, G, g1, g2, h3⟩; exact ⟨G, g1, fun b hb hx => g2 b hb (.inl hx), F, h1, fun b hb hx => hx.elim (h2 b hb) fun hg => g2 b hg (.inr hb), satX.less (fun b hb => hb.elim (fun hb => hb.elim (fun h => .inl (.inl h)) .inr) fun h => .inl (.inr h)) h3⟩
  | trans _ _ i1 i2 => exact fun X h => i2 X (i1 X h)
theorem Mem.perm (hs : Mem g w L) (h : L.Perm M) : Mem g w M := hs.imp fun X => satX.perm h X

/-- A manifest with its two slices. -/
abbrev T3 := Mf × SA × SA
def t3L (t : T3) : List Value := mfL t.1 t.2.1 t.2.2
def t3P (t : T3) : List HP := mfP t.1 t.2.1 t.2.2
def idOk (x : Mf) : Prop := 0 ≤ x.id ∧ x.id ≤ 2147483647
theorem t3L_len (t : T3) : (t3L t).length = 6 := rfl
theorem t3L_one (t : T3) : ∀ v ∈ t3L t, v.oneCell' = true := fun v hv => by
  simp only [t3L, mfL, List.mem_cons, List.not_mem_nil, or_false] at hv
  rcases hv with rfl | rfl | rfl | rfl | rfl | rfl <;> rfl
theorem t3L_rows (l : List T3) : ∀ r ∈ l.map t3L, r.length = 6 ∧ ∀ u ∈ r, u.oneCell' = true := fun r hr => by
  obtain ⟨x, _, rfl⟩ := List.mem_map.1 hr
  exact ⟨rfl, t3L_one x⟩
theorem cmpM_neg {x y : Mf} : cmpM x y < 0 ↔ x.base < y.base ∨ (x.base = y.base ∧ x.id < y.id) := by
  by_cases h1 : x.base < y.base
  · simp [cmpM, cmpI, h1]
  · by_cases h2 : y.base < x.base
    · simp [cmpM, cmpI, h1, h2]; omega
    · simp [cmpM, cmpI, h1, h2]; omega
end Go.Proofs.YtkogkokmcmallaaGreatDoor
