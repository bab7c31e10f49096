/- max. -/
import Derived.Test.YtkogkokmcmallaaGreatDoorZb
namespace Go.Proofs.YtkogkokmcmallaaGreatDoor
set_option linter.all false
open Go.RowKit
variable {w : World}
theorem run_max {P : Program} {ρ : Env} {dst : Option Tmp} {ty : TypeId} {pos : String} {aft : Array Edge} {x y : Operand} {ts : Array TypeId} {k : IntKind} {a b : Int} (hx : ev ρ x = .int k a) (hy : ev ρ y = .int k b) : (execOp (ev ρ) ⟨dst, .call { callee := .builtin .max, args := #[x, y], argTypes := ts }, ty, pos, aft, none⟩).run P w = .ok (.value (.int k (max a b))) w := by
  have : (if a < b then b else a) = max a b := by
    rw [Int.max_def]; split <;> split <;> omega
  simp [execOp, resolve, invoke, builtin, Builtin.max_, hx, hy, Builtin.max2, this]
end Go.Proofs.YtkogkokmcmallaaGreatDoor
