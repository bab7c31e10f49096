/- Errors in cells, in interfaces. -/
import Derived.Test.YtkogkokmcmallaaGreatDoorZb
namespace Go.Proofs.YtkogkokmcmallaaGreatDoor
set_option linter.all false
open Go.RowKit
variable {g w : World} {ad : Nat → Addr}

theorem run_mkI {P : Program} {ρ : Env} {dst : Option Tmp} {ty : TypeId} {pos : String} {aft : Array Edge} {x : Operand} {t e : TypeId} {v : Value} (ht : P.underlying t = some (.pointer e)) (hx : ev ρ x = v) : (execOp (ev ρ) ⟨dst, .makeInterface t x, ty, pos, aft, none⟩).run P w = .ok (.value (.iface t v)) w := by
  simp [execOp, Instr.makeInterface, run_underlying ht, hx]
theorem errV_one (ad : Nat → Addr) (c : Nat) : (errV ad c).oneCell' = true := by unfold errV; split <;> rfl
theorem at_one (z : Int) (k : Nat) : ∀ u ∈ [Value.int .i64 z, errV ad k], u.cells = #[u] := cells_one fun u hu => by
  simp only [List.mem_cons, List.not_mem_nil, or_false] at hu
  rcases hu with rfl | rfl
  · rfl
  · exact errV_one ad k
theorem run_cats {P : Program} {ρ : Env} {dst : Option Tmp} {ty : TypeId} {pos : String} {aft : Array Edge} {x y : Operand} {t u : TypeId} {a b : ByteArray} (hx : ev ρ x = .string a) (hy : ev ρ y = .string b) (hl : a.size + b.size ≤ 9223372036854775807) : (execOp (ev ρ) ⟨dst, .binOp .add t x y u, ty, pos, aft, none⟩).run P w = .ok (.value (.string (a ++ b))) w := by
  have hl2 : (a.size : Int) + b.size ≤ 9223372036854775807 := by omega
  simp [execOp, hx, hy, guard_str, binOp, Op.stringOp, hl2]
end Go.Proofs.YtkogkokmcmallaaGreatDoor
