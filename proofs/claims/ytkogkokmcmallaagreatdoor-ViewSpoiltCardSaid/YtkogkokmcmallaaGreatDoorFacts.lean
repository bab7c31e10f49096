/- Closed facts on the program's head, that each row of this seat asks for. -/
import Derived.Test.YtkogkokmcmallaaGreatDoorRows
import Derived.JoinedOf
import Derived.ProofKit
namespace Go.Proofs.YtkogkokmcmallaaGreatDoor
set_option maxRecDepth 100000
theorem headMay : Tryz.prog.mayEnter = true := by kernel_rfl
theorem headLifts : (Rows.sweepKeepsRow.lifted == Tryz.prog.liftsFinal) = true := by kernel_rfl
theorem headMake : (Tryz.prog.make == some Rows.sweepKeepsRow.make) = true := by kernel_rfl
theorem both_true {a b : Bool} (ha : a = true) (hb : b = true) : (a && b) = true := by rw [ha, hb]; rfl
end Go.Proofs.YtkogkokmcmallaaGreatDoor
