/- Number, over chunks. -/
import Derived.Test.YtjiigajekminaaaDoorSL
import Derived.Test.YtjiigajekminaaaDoorUtil
namespace Go.Proofs.YtjiigajekminaaaDoor
set_option linter.all false
open Go.RowKit
variable {g w : World} {L M : List HP} {ad : Nat → Addr}

theorem number_sl (hs : Mem g w L) (n b : Int) (hb : 0 < b ∧ b < 1000) : Calls Tryd.prog 34 #[.int .i64 n, .int .i64 b] w (Ret fun v w' => ∃ r : Nat, (r : Int) < b ∧ v = .int .i64 (r : Nat) ∧ Mem g w' L) := by
  refine (number_lit n b hb w).mono ?_
  rintro e w' ⟨r, hr, rfl, rfl⟩
  exact ⟨_, rfl, r, by omega, rfl, hs⟩
end Go.Proofs.YtjiigajekminaaaDoor
