/- Asking till there is an answer, in general. -/
import Derived.Test.YtjiigajekminaaaDoorC
namespace Go.Proofs.YtjiigajekminaaaDoor
set_option linter.all false
open Go.RowKit

section
variable {σ : Type} {step : σ → Nat × σ}
theorem again_ind (I : σ → Prop) (hI : ∀ s, I s → (step s).1 = 111 → I (step s).2) : ∀ (t : Nat) (s : σ), I s →
    ((againR step t s).2.1 = 111 ∧ I (againR step t s).2.2.2) ∨ ∃ s', I s' ∧ (step s').1 ≠ 111 ∧ (againR step t s).2.1 = (step s').1 ∧ (againR step t s).2.2.2 = (step s').2 ∧ ((againR step t s).1 = true ∨ s' = s)
  | 0, s, h => .inl ⟨rfl, h⟩
  | t + 1, s, h => by
    by_cases h1 : (step s).1 = 111
    · simp only [againR, if_pos h1]
      rcases again_ind I hI t _ (hI s h h1) with ⟨a, b⟩ | ⟨s', a, b, c, d, _⟩
      · exact .inl ⟨a, b⟩
      · exact .inr ⟨s', a, b, c, d, .inl trivial⟩
    · simp only [againR, if_neg h1]
      exact .inr ⟨s, h, h1, rfl, rfl, .inr rfl⟩
theorem again_add (f : σ → Nat) (hf : ∀ s, f (step s).2 ≤ f s + 1) : ∀ (t : Nat) (s : σ), f (againR step t s).2.2.2 ≤ f s + t
  | 0, s => Nat.le_refl _
  | t + 1, s => by
    have h1 := hf s
    have h2 := again_add f hf t (step s).2
    simp only [againR]
    split <;> simp only <;> omega
theorem again_n : ∀ (t : Nat) (s : σ), (againR step t s).2.2.1 ≤ t
  | 0, s => Nat.le_refl _
  | t + 1, s => by
    have h2 := again_n t (step s).2
    simp only [againR]
    split <;> simp only <;> omega
theorem again_less0 (f : σ → Nat) (hf : ∀ s, f (step s).2 ≤ f s - 1) : ∀ (t : Nat) (s : σ), f (againR step t s).2.2.2 ≤ f s
  | 0, s => Nat.le_refl _
  | t + 1, s => by
    have h1 := hf s
    have h2 := again_less0 f hf t (step s).2
    simp only [againR]
    split <;> simp only <;> omega
theorem again_less (f : σ → Nat) (hf : ∀ s, f (step s).2 ≤ f s - 1) (t : Nat) (s : σ) : f (againR step (t + 1) s).2.2.2 ≤ f s - 1 := by
  have h1 := hf s
  have h2 := again_less0 f hf t (step s).2
  simp only [againR]
  split <;> simp only <;> omega
theorem again_first {t : Nat} {s : σ} (h : (step s).1 ≠ 111) : againR step (t + 1) s = (false, (step s).1, 1, (step s).2) := by simp only [againR, if_neg h]
end

end Go.Proofs.YtjiigajekminaaaDoor
