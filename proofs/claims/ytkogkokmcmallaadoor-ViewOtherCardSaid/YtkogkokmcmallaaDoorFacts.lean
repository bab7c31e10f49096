/- Closed facts on the program's head, that each row of this seat asks for. -/
import Derived.Test.YtkogkokmcmallaaDoorRows
import Derived.JoinedOf
import Derived.ProofKit
namespace Go.Proofs.YtkogkokmcmallaaDoor
set_option maxRecDepth 100000
theorem headMay : Tryd.prog.mayEnter = true := by kernel_rfl
theorem headLifts : (Rows.sweepNamesRow.lifted == Tryd.prog.liftsFinal) = true := by kernel_rfl
theorem headMake : (Tryd.prog.make == some Rows.sweepNamesRow.make) = true := by kernel_rfl
theorem both_true {a b : Bool} (ha : a = true) (hb : b = true) : (a && b) = true := by rw [ha, hb]; rfl
end Go.Proofs.YtkogkokmcmallaaDoor
