/- part: parts, fair, Range. -/
import Derived.Test.YtjiigajekminaaaDoorLawA
import Derived.Deep.QuietTactic
namespace Go.Proofs.YtjiigajekminaaaDoor
set_option linter.all false
open Go.RowKit

/-- How many parts. -/
def partsN (size each : Nat) : Nat := (size + each - 1) / each
theorem partsN_eq {size each : Nat} (h1 : 1 ≤ each) : partsN size each = if 0 < size % each then size / each + 1 else size / each := by
  have hd := Nat.div_add_mod size each
  have hm := Nat.mod_lt size (show each > 0 by omega)
  unfold partsN
  split
  · have e : size + each - 1 = each * (size / each + 1) + (size % each - 1) := by
      rw [Nat.mul_add]; omega
    rw [e, Nat.mul_add_div (by omega), Nat.div_eq_of_lt (show size % each - 1 < each by omega)]
  · have e : size + each - 1 = each * (size / each) + (each - 1) := by omega
    rw [e, Nat.mul_add_div (by omega), Nat.div_eq_of_lt (show each - 1 < each by omega)]
    all_goals rfl
theorem parts_any (size each : Nat) (h1 : 1 ≤ each) (h2 : each ≤ 1048576) (hs : size ≤ 1048576) (w : World) :
    Calls Tryd.prog 72 #[.int .i64 size, .int .i64 each] w fun e w' => e = .returned (.int .i64 (partsN size each : Nat)) ∧ w = w' := by
  have HP := Lib.hid (partsN_eq (size := size) h1)
  have hb0 : ((each : Int) == 0) = false := by simp; omega
  obtain ⟨q, hq⟩ : ∃ q, q = size / each := ⟨_, rfl⟩
  obtain ⟨r, hr⟩ : ∃ r, r = size % each := ⟨_, rfl⟩
  have e1 : ((size : Int) / (each : Int)) = (q : Int) := by rw [hq]; exact (Int.natCast_ediv size each).symm
  have e2 : ((size : Int) % (each : Int)) = (r : Int) := by rw [hr]; exact (Int.natCast_emod size each).symm
  have hqb : q ≤ size := by rw [hq]; exact Nat.div_le_self _ _
  have HQ := Lib.hid (And.intro hq hr)
  clear hq hr
  by_cases hr0 : 0 < r
  · go_enter Tryd.func72, Tryd.ntmps72
    go_wp2
    go_ret
    refine ⟨ret_int ?_, rfl⟩
    rw [HP.out, ← HQ.out.1, ← HQ.out.2, if_pos hr0]
    rfl
  · go_enter Tryd.func72, Tryd.ntmps72
    go_wp2
    go_ret
    refine ⟨ret_int ?_, rfl⟩
    rw [HP.out, ← HQ.out.1, ← HQ.out.2, if_neg hr0]

theorem parts_same (size each : Nat) (h1 : 1 ≤ each) (h2 : each ≤ 1048576) (hs : size ≤ 1048576) (w : World) :
    Calls Tryd.prog 72 #[.int .i64 size, .int .i64 each] w fun e w' => e = .returned (.int .i64 (partsN size each : Nat)) ∧ w' = w :=
  (parts_any size each h1 h2 hs w).mono fun _ _ h => ⟨h.1, h.2.symm⟩
/-- A plan's cells. -/
def PlanCells (name : ByteArray) (size : Nat) (sum : Nat) (each parts : Nat) : Array Value := #[.string name, .int .i64 size, .int .u32 (sum : Int), .int .i64 each, .int .i64 parts]
set_option maxRecDepth 100000 in
/-- A plan that Make has made is fair. -/
theorem fair_any {w : World} {name : ByteArray} {size sum each parts : Nat} (h1 : 1 ≤ each) (h2 : each ≤ 1048576) (hs : size ≤ 1048576) (hp : parts = partsN size each) (hm : parts ≤ 256) :
    Calls Tryd.prog 75 #[.agg (PlanCells name size sum each parts)] w fun e w' => e = .returned (.bool true) ∧ Below w.heap.size w w' := by
  have HP := Lib.hid hp
  clear hp
  unfold PlanCells
  go_enter Tryd.func75, Tryd.ntmps75
  go_wp2_with fail
  have k0 : Keeps (fun _ => False) w (w.alloc (.cells #[.string name, .int .i64 size, .int .u32 (sum : Int), .int .i64 each, .int .i64 parts] 38)) := (Keeps.refl _ _).alloc _
  have b0 : (w.alloc (.cells #[.string name, .int .i64 size, .int .u32 (sum : Int), .int .i64 each, .int .i64 parts] 38)).heap[w.heap.size]? = some (.cells #[.string name, .int .i64 size, .int .u32 (sum : Int), .int .i64 each, .int .i64 parts] 38 (0, 0)) := World.alloc_heap_new w _
  generalize (w.alloc (.cells #[.string name, .int .i64 size, .int .u32 (sum : Int), .int .i64 each, .int .i64 parts] 38)) = w0 at *
  have c1 : w0.cell? ⟨w.heap.size, 1, none⟩ = some (.int .i64 size) := cell_at b0 rfl
  have c3 : w0.cell? ⟨w.heap.size, 3, none⟩ = some (.int .i64 each) := cell_at b0 rfl
  have c4 : w0.cell? ⟨w.heap.size, 4, none⟩ = some (.int .i64 parts) := cell_at b0 rfl
  have q1 : (1 : Int) ≤ (each : Int) := by omega
  have q2 : (each : Int) ≤ 1048576 := by omega
  have q3 : (parts : Int) ≤ 256 := by omega
  have q4 : (0 : Int) ≤ (size : Int) := by omega
  have g1 : decide ((1 : Int) ≤ (each : Int)) = true := decide_eq_true q1
  have g2 : decide ((each : Int) ≤ 1048576) = true := decide_eq_true q2
  have g3 : decide ((parts : Int) ≤ 256) = true := decide_eq_true q3
  have K0 := Lib.hid k0
  clear k0 b0
  have g4 : ((parts : Int) == ((partsN size each : Nat) : Int)) = true := by rw [← HP.out]; simp
  go_quiet (first | (go_at_call 72; exact Calls.quiet_of_same (parts_same size each h1 h2 hs _)))
  go_wp2
  go_ret
  exact ⟨rfl, (K0.out.drewN nq).below (Nat.le_refl _) fun _ _ => id⟩
end Go.Proofs.YtjiigajekminaaaDoor
