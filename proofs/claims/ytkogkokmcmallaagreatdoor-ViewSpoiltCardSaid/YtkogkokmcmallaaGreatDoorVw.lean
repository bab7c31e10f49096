/- Views: plain laws. -/
import Derived.Test.YtkogkokmcmallaaGreatDoorFl
import Derived.Test.YtkogkokmcmallaaGreatDoorZa
namespace Go.Proofs.YtkogkokmcmallaaGreatDoor
set_option linter.all false

theorem al_key {κ α : Type} [DecidableEq κ] {l : List (κ × α)} {k : κ} {v : α} (h : aget l k = some v) : k ∈ keysOf l := List.mem_map_of_mem (aget_mem h)
theorem al_of_key {κ α : Type} [DecidableEq κ] {l : List (κ × α)} {k : κ} (h : k ∈ keysOf l) : ∃ v, aget l k = some v := by
  cases hc : aget l k with
  | some v => exact ⟨v, rfl⟩
  | none => exact absurd h ((aget_none_iff _ _).1 hc)
theorem al_in {κ α : Type} [DecidableEq κ] {l : List (κ × α)} {k : κ} {v : α} {x : κ × α} (h : x ∈ aput l k v) : x = (k, v) ∨ x ∈ l := by
  induction l with
  | nil => simp [aput] at h; exact .inl h
  | cons y l ih =>
    obtain ⟨a, b⟩ := y
    simp only [aput] at h
    split at h
    · rcases List.mem_cons.1 h with h | h
      · exact .inl h
      · exact .inr (List.mem_cons_of_mem _ h)
    · rcases List.mem_cons.1 h with h | h
      · exact .inr (by rw [h]; exact List.mem_cons_self ..)
      · rcases ih h with h | h
        · exact .inl h
        · exact .inr (List.mem_cons_of_mem _ h)
theorem al_end {κ α : Type} [DecidableEq κ] {l : List (κ × α)} {k : κ} {v : α} (h : aget l k = none) : aput l k v = l ++ [(k, v)] := by
  rw [aget_none_iff] at h
  induction l with
  | nil => rfl
  | cons x l ih =>
    obtain ⟨a, b⟩ := x
    simp only [keysOf, List.map_cons, List.mem_cons, not_or] at h
    simp only [List.cons_append, aput]
    rw [if_neg (fun e => h.1 e.symm), ih h.2]
theorem al_len {κ α : Type} [DecidableEq κ] {l : List (κ × α)} {k : κ} {v u : α} (h : aget l k = some u) : (aput l k v).length = l.length := by
  have := congrArg List.length (show keysOf (aput l k v) = keysOf l by rw [keys_put, if_pos (al_key h)])
  simpa [keysOf] using this
theorem al_del {κ α : Type} [DecidableEq κ] : ∀ {l : List (κ × α)} {k : κ} {v : α}, aget l k = some v → (adel l k).length + 1 = l.length
  | (a, b) :: l, k, v, h => by
    simp only [aget] at h
    simp only [adel]
    split at h
    · rename_i e; rw [if_pos e]; simp
    · rename_i e; rw [if_neg e]; have := al_del h; simpa using this

/-! ### apply -/
variable {V : Vw} {k : Int} {x : Mf}
theorem Vw.ok_nil : Vw.ok [] := ⟨List.nodup_nil, (fun x h => by cases h), by simp⟩
theorem nextB_kind {s k : Int} (h : nextB s k = true) : 1 ≤ k ∧ k ≤ 4 := by
  unfold nextB at h
  split at h
  · omega
  · split at h
    · omega
    · split at h
      · omega
      · split at h
        · omega
        · cases h
/-- The cases of an entry. -/
theorem Vw.apply_ok (h : V.ok) (k : Int) (x : Mf) : (V.apply k x).2.ok := by
  unfold Vw.apply
  split
  · exact h
  · rename_i h1
    have h1 : (mfF x).1 = 0 := by simpa using h1
    split
    · exact h
    · rename_i h2
      split
      · exact h
      · split
        · rename_i hn
          split
          · exact h
          · rename_i h4
            refine ⟨nodup_put h.nd _ _, fun y hy => ?_, ?_⟩
            · rcases al_in hy with rfl | hy
              · exact ⟨h1, rfl, by show 1 ≤ k; omega, by show k ≤ 4; omega⟩
              · exact h.fine y hy
            · show (aput V x.id ⟨k, x⟩).length ≤ 4096
              rw [al_end hn]
              simp only [List.length_append, List.length_cons, List.length_nil]
              omega
        · rename_i i hi
          split
          · refine ⟨nodup_put h.nd _ _, fun y hy => ?_, ?_⟩
            · rcases al_in hy with rfl | hy
              · exact ⟨h1, rfl, by show 1 ≤ k; omega, by show k ≤ 4; omega⟩
              · exact h.fine y hy
            · show (aput V x.id ⟨k, x⟩).length ≤ 4096
              rw [al_len hi]
              exact h.few
          · exact h
/-- A fault of a view's. -/
theorem Vw.apply_flt (V : Vw) (k : Int) (x : Mf) : ((V.apply k x).1 = (0, none) ∨ (V.apply k x).1.1 ∈ [103, 104, 105, 106, 112, 113]) ∧ ((V.apply k x).1.2 = none ∨ (V.apply k x).1.1 ∈ [105, 106]) := by
  unfold Vw.apply
  split
  · have := mfF_ok x
    refine ⟨this.1.imp id fun h => ?_, this.2⟩
    show (mfF x).1 ∈ _
    revert h
    simp only [List.mem_cons, List.not_mem_nil, or_false]
    omega
  · split
    · exact ⟨.inr (by simp), .inl rfl⟩
    · split
      · exact ⟨.inr (by simp), .inl rfl⟩
      · split
        · split
          · exact ⟨.inr (by simp), .inl rfl⟩
          · exact ⟨.inl rfl, .inl rfl⟩
        · split
          · exact ⟨.inl rfl, .inl rfl⟩
          · exact ⟨.inr (by simp), .inl rfl⟩
theorem mem_keysV {V : Vw} {x : Int × Itm} (h : x ∈ V) : x.1 ∈ keysOf V := List.mem_map_of_mem h
theorem Vw.refers_iff {n : ByteArray} : V.refers n = true ↔ ∃ x ∈ V, refersB x.2 n = true := by simp [Vw.refers]
end Go.Proofs.YtkogkokmcmallaaGreatDoor
