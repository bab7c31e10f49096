/- part: Range. -/
import Derived.Test.YtjiigajekminaaaDoorPart
namespace Go.Proofs.YtjiigajekminaaaDoor
set_option linter.all false
open Go.RowKit

/-- Where a part lies. -/
def RangePost (w : World) (from_ to_ : Int) (is : Bool) (e : Ending) (w' : World) : Prop := e = .returned (.tuple #[.int .i64 from_, .int .i64 to_, .bool is]) ∧ Below w.heap.size w w'
set_option maxHeartbeats 800000 in
set_option maxRecDepth 100000 in
theorem range_in {w : World} {name : ByteArray} {size sum each parts n : Nat} (h1 : 1 ≤ each) (h2 : each ≤ 1048576) (hs : size ≤ 1048576) (hp : parts = partsN size each) (hm : parts ≤ 256) (hn : n < parts) :
    Calls Tryd.prog 32 #[.agg (PlanCells name size sum each parts), .int .i64 n] w (RangePost w ((n * each : Nat) : Int) ((min ((n + 1) * each) size : Nat) : Int) true) := by
  have HP := Lib.hid hp
  clear hp
  have hmul : n * each ≤ 268435456 := Nat.le_trans (Nat.mul_le_mul (show n ≤ 256 by omega) h2) (by decide)
  have hmul2 : (n + 1) * each ≤ 270532608 := Nat.le_trans (Nat.mul_le_mul (show n + 1 ≤ 257 by omega) h2) (by decide)
  have e1 : ((n : Int) * (each : Int)) = ((n * each : Nat) : Int) := (Int.natCast_mul n each).symm
  have e2 : (((n : Int) + 1) * (each : Int)) = (((n + 1) * each : Nat) : Int) := by rw [Int.natCast_mul]; rfl
  generalize n * each = m1 at *
  generalize (n + 1) * each = m2 at *
  unfold PlanCells
  go_enter Tryd.func32, Tryd.ntmps32
  go_wp2_with (first | (go_at_call 75; refine (fair_any (name := name) (sum := sum) h1 h2 hs HP.out hm).mono ?_; rintro e w1 ⟨rfl, hb1⟩; have bx := World.alloc_heap_new w (.cells #[.string name, .int .i64 size, .int .u32 (sum : Int), .int .i64 each, .int .i64 parts] 38); have c1 : w1.cell? ⟨w.heap.size, 1, none⟩ = some (.int .i64 size) := (hb1.cell (p := ⟨w.heap.size, 1, none⟩) (lt_of_block bx)).trans (cell_at bx rfl); have c3 : w1.cell? ⟨w.heap.size, 3, none⟩ = some (.int .i64 each) := (hb1.cell (p := ⟨w.heap.size, 3, none⟩) (lt_of_block bx)).trans (cell_at bx rfl); have c4 : w1.cell? ⟨w.heap.size, 4, none⟩ = some (.int .i64 parts) := (hb1.cell (p := ⟨w.heap.size, 4, none⟩) (lt_of_block bx)).trans (cell_at bx rfl); have Hb1 := Lib.hid ((((Keeps.refl (fun _ => False) w).alloc (.cells #[.string name, .int .i64 size, .int .u32 (sum : Int), .int .i64 each, .int .i64 parts] 38)).below (Nat.le_refl _) fun _ _ => id).trans (hb1.mono (by simp))); clear hb1 bx))
  have wr : ∀ z : Int, 0 ≤ z → z ≤ 1000000000 → IntKind.i64.wrap z = z := fun z h0 h1 => by
    have : z % 18446744073709551616 = z := Int.emod_eq_of_lt h0 (by omega)
    simp [IntKind.wrap, IntKind.bits, IntKind.signed, this]
    omega
  have v1 := wr m1 (by omega) (by omega)
  have v2 := wr ((n : Int) + 1) (by omega) (by omega)
  have v3 := wr m2 (by omega) (by omega)
  clear wr
  by_cases hmm : m2 ≤ size
  · rw [show min m2 size = m2 from Nat.min_eq_left hmm]
    have hz : (m2 : Int) ≤ (size : Int) := by omega
    go_region_held3 (fun w' => w'.cell? ⟨w.heap.size, 1, none⟩ = some (.int .i64 size) ∧ w'.cell? ⟨w.heap.size, 3, none⟩ = some (.int .i64 each) ∧ w'.cell? ⟨w.heap.size, 4, none⟩ = some (.int .i64 parts)) (go_keep) (first | (fail))
    go_wp2
    go_ret3
    exact ⟨rfl, Hb1.out.drew⟩
  · have hz : (size : Int) < (m2 : Int) := by omega
    have hz2 : ¬ (m2 : Int) < (size : Int) := by omega
    have hz3 : min (m2 : Int) (size : Int) = (size : Int) := Int.min_eq_right (by omega)
    go_region_held3 (fun w' => w'.cell? ⟨w.heap.size, 1, none⟩ = some (.int .i64 size) ∧ w'.cell? ⟨w.heap.size, 3, none⟩ = some (.int .i64 each) ∧ w'.cell? ⟨w.heap.size, 4, none⟩ = some (.int .i64 parts)) (go_keep) (first | (fail))
    go_wp2
    go_ret3
    refine ⟨?_, Hb1.out.drew⟩
    rw [show min m2 size = size from Nat.min_eq_right (by omega)]
    rfl

theorem range_out {w : World} {name : ByteArray} {size sum each parts : Nat} {n : Int} (h1 : 1 ≤ each) (h2 : each ≤ 1048576) (hs : size ≤ 1048576) (hp : parts = partsN size each) (hm : parts ≤ 256) (hn : n < 0 ∨ (parts : Int) ≤ n) :
    Calls Tryd.prog 32 #[.agg (PlanCells name size sum each parts), .int .i64 n] w (RangePost w 0 0 false) := by
  have HP := Lib.hid hp
  clear hp
  unfold PlanCells
  rcases hn with hn | hn
  · go_enter Tryd.func32, Tryd.ntmps32
    go_wp2_with (first | (go_at_call 75; refine (fair_any (name := name) (sum := sum) h1 h2 hs HP.out hm).mono ?_; rintro e w1 ⟨rfl, hb1⟩; have bx := World.alloc_heap_new w (.cells #[.string name, .int .i64 size, .int .u32 (sum : Int), .int .i64 each, .int .i64 parts] 38); have c1 : w1.cell? ⟨w.heap.size, 1, none⟩ = some (.int .i64 size) := (hb1.cell (p := ⟨w.heap.size, 1, none⟩) (lt_of_block bx)).trans (cell_at bx rfl); have c3 : w1.cell? ⟨w.heap.size, 3, none⟩ = some (.int .i64 each) := (hb1.cell (p := ⟨w.heap.size, 3, none⟩) (lt_of_block bx)).trans (cell_at bx rfl); have c4 : w1.cell? ⟨w.heap.size, 4, none⟩ = some (.int .i64 parts) := (hb1.cell (p := ⟨w.heap.size, 4, none⟩) (lt_of_block bx)).trans (cell_at bx rfl); have Hb1 := Lib.hid ((((Keeps.refl (fun _ => False) w).alloc (.cells #[.string name, .int .i64 size, .int .u32 (sum : Int), .int .i64 each, .int .i64 parts] 38)).below (Nat.le_refl _) fun _ _ => id).trans (hb1.mono (by simp))); clear hb1 bx))
    go_ret3
    exact ⟨rfl, Hb1.out⟩
  · go_enter Tryd.func32, Tryd.ntmps32
    go_wp2_with (first | (go_at_call 75; refine (fair_any (name := name) (sum := sum) h1 h2 hs HP.out hm).mono ?_; rintro e w1 ⟨rfl, hb1⟩; have bx := World.alloc_heap_new w (.cells #[.string name, .int .i64 size, .int .u32 (sum : Int), .int .i64 each, .int .i64 parts] 38); have c1 : w1.cell? ⟨w.heap.size, 1, none⟩ = some (.int .i64 size) := (hb1.cell (p := ⟨w.heap.size, 1, none⟩) (lt_of_block bx)).trans (cell_at bx rfl); have c3 : w1.cell? ⟨w.heap.size, 3, none⟩ = some (.int .i64 each) := (hb1.cell (p := ⟨w.heap.size, 3, none⟩) (lt_of_block bx)).trans (cell_at bx rfl); have c4 : w1.cell? ⟨w.heap.size, 4, none⟩ = some (.int .i64 parts) := (hb1.cell (p := ⟨w.heap.size, 4, none⟩) (lt_of_block bx)).trans (cell_at bx rfl); have Hb1 := Lib.hid ((((Keeps.refl (fun _ => False) w).alloc (.cells #[.string name, .int .i64 size, .int .u32 (sum : Int), .int .i64 each, .int .i64 parts] 38)).below (Nat.le_refl _) fun _ _ => id).trans (hb1.mono (by simp))); clear hb1 bx))
    go_ret3
    exact ⟨rfl, Hb1.out⟩
end Go.Proofs.YtjiigajekminaaaDoor
