/- Ways that meet again, told by slots. -/
import Derived.Test.YtkogkokmcmallaaDoorG
namespace Go.Proofs.YtkogkokmcmallaaDoor
set_option linter.all false
variable {P : Program} {n : Nat} {N R : Post} {B : List (Nat × Post)} {ρ : Env} {w : World}
theorem cw_mid {c1 c2 : Code} {X : Type} (W : List Nat) (slots : X → List (Nat × Value)) (I : X → World → Prop) (h1 : cw P n c1 (fun ρ' w' => ∃ x, I x w' ∧ AllS ρ' (slots x) ∧ Out W ρ' ρ) B R ρ w)
    (h2 : ∀ x ξ w, I x w → cw P n c2 N B R (updL (mix W ξ ρ) (slots x)) w) : cw P n (.seq c1 c2) N B R ρ w :=
  cw_join _ h1 fun ρ' w' ⟨x, hI, hS, hO⟩ => by
    have := h2 x ρ' w' hI
    rwa [← funext (env_head hO _ hS)] at this
end Go.Proofs.YtkogkokmcmallaaDoor
