/- A kind and a manifest, put together. -/
import Derived.Test.YtkogkokmcmallaaGreatDoorFl
namespace Go.Proofs.YtkogkokmcmallaaGreatDoor
set_option linter.all false
open Go.RowKit
variable {g w : World} {L M : List HP} {ad : Nat → Addr} {p : Nat}

theorem fill_km (k a b c d : Int) (e o : SA) (n m : Nat) : Instr.fill ((#[(0, 1), (1, 6)] : Array (Nat × Nat))[·]?) #[.int .i64 0, .int .i64 0, .int .i64 0, .int .i64 0, .int .i64 0, .slice none 0 0, .slice none 0 0] [(0, .int .i64 k), (1, .agg #[.int .i64 a, .int .i64 b, .int .i64 c, .int .i64 d, .slice e.1 n e.2, .slice o.1 m o.2])] = some #[.int .i64 k, .int .i64 a, .int .i64 b, .int .i64 c, .int .i64 d, .slice e.1 n e.2, .slice o.1 m o.2] := by
  kernel_rfl
variable {ρ : Env} {dst : Option Tmp} {ty : TypeId} {pos : String} {aft : Array Edge} {x y : Operand}
theorem run_buildKM {P : Program} {t : TypeId} {fs : Array Field} {k : Int} {m : Mf} {e o : SA} (ht : P.underlying t = some (.struct fs)) (hz : (P.info? t).map (·.zero) = some (some (.agg #[.int .i64 0, .int .i64 0, .int .i64 0, .int .i64 0, .int .i64 0, .slice none 0 0, .slice none 0 0])))
    (hp : ∀ w, (fs.mapM (m := Sem) fun f => do pure (f.offset, ← sizeOf f.type)).run P w = .ok #[(0, 1), (1, 6)] w) (hx : ev ρ x = .int .i64 k) (hy : ev ρ y = .agg (mfL m e o).toArray) :
    (execOp (ev ρ) ⟨dst, .build t #[(0, x), (1, y)], ty, pos, aft, none⟩).run P w = .ok (.value (.agg (.int .i64 k :: mfL m e o).toArray)) w := by
  refine run_build (ps := [(0, x), (1, y)]) ht hz hp ?_
  simp only [List.map_cons, List.map_nil, hx, hy]
  exact fill_km k m.id m.base m.fin m.time e o _ _
end Go.Proofs.YtkogkokmcmallaaGreatDoor
