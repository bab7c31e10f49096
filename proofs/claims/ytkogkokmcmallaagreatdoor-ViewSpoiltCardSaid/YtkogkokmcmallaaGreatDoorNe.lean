/- A number of the statements, exactly. -/
import Derived.Test.YtkogkokmcmallaaGreatDoorG
import Derived.Test.YtkogkokmcmallaaGreatDoorVw
namespace Go.Proofs.YtkogkokmcmallaaGreatDoor
set_option linter.all false
open Go.RowKit
attribute [local irreducible] errV
variable {g w : World} {L M : List HP} {ad : Nat → Addr}

/-- A number, as the statements make it. -/
theorem numberE_sl (hs : Mem g w L) (n : Int) (b : Nat) (hb : 0 < b ∧ b < 1000) : Calls Tryz.prog 17 #[.int .i64 n, .int .i64 b] w (Ret fun v w' => v = .int .i64 (((n % (b : Int)).toNat : Nat) : Int) ∧ Mem g w' L) := by
  have h0 : (b : Int) ≠ 0 := by omega
  have h1 := Int.emod_nonneg n h0
  have h3 := Int.emod_lt_of_pos n (show (0 : Int) < b by omega)
  have h4 := Int.tmod_lt_of_pos n (show (0 : Int) < b by omega)
  have h5 : -(b : Int) < n.tmod b := by have h3 := Int.natAbs_tmod n (b : Int); have h4 := Nat.mod_lt n.natAbs (y := (b : Int).natAbs) (by omega); omega
  have he : n.tmod b < 0 → n.tmod b + b = n % (b : Int) := fun h => by
    have e1 : (n.tmod b + (b : Int) * 1) % b = n % b := by
      rw [Int.add_mul_emod_self_left]
      conv => rhs; rw [← Int.tmod_add_mul_tdiv n (b : Int)]
      rw [Int.add_mul_emod_self_left]
    rw [Int.mul_one, Int.emod_eq_of_lt (by omega) (by omega)] at e1
    exact e1
  have hp : ¬ n.tmod b < 0 → n.tmod b = n % (b : Int) := fun h => by
    have e1 : n.tmod b % b = n % b := by
      conv => rhs; rw [← Int.tmod_add_mul_tdiv n (b : Int)]
      rw [Int.add_mul_emod_self_left]
    rw [Int.emod_eq_of_lt (by omega) (by omega)] at e1
    exact e1
  refine calls_cw Tryz.func17 rfl rfl ?_
  skip
  refine cw_seq ?_
  refine cw_region ?_
  first | refine lw_val rfl (run_assign (v := .int .i64 _) rfl) ?_
  refine lw_nil ?_
  refine cw_seq ?_
  refine cw_region ?_
  first | refine lw_val rfl (run_move (v := .int .i64 _) rfl) ?_
  first | refine lw_val rfl (run_move (v := .int .i64 _) rfl) ?_
  refine lw_val rfl (run_rem rfl rfl (by omega)) ?_
  first | refine lw_val rfl (run_assign (v := .int .i64 _) rfl) ?_
  refine lw_nil ?_
  refine cw_seq ?_
  refine cw_seq ?_
  refine cw_region ?_
  first | refine lw_val rfl (run_move (v := .int .i64 _) rfl) ?_
  refine lw_val rfl (run_lss rfl rfl) ?_
  refine lw_nil ?_
  refine cw_if rfl ?_ ?_
  · intro h10
    have g10 := of_decide_eq_true h10
    refine cw_region ?_
    first | refine lw_val rfl (run_move (v := .int .i64 _) rfl) ?_
    first | refine lw_val rfl (run_move (v := .int .i64 _) rfl) ?_
    refine lw_val rfl (run_add64 rfl rfl (c := n.tmod b + b) rfl (inI (by omega) (by omega))) ?_
    first | refine lw_val rfl (run_assign (v := .int .i64 _) rfl) ?_
    refine lw_nil ?_
    refine cw_seq ?_
    refine cw_region ?_
    first | refine lw_val rfl (run_move (v := .int .i64 _) rfl) ?_
    first | refine lw_val rfl (run_assign (v := .int .i64 _) rfl) ?_
    refine lw_nil ?_
    refine cw_ret ?_
    refine res1 (v := .int .i64 _) rfl rfl ?_
    exact ⟨_, rfl, by show Value.int .i64 (n.tmod b + b) = _; rw [he g10]; congr 1; omega, hs⟩
  · intro h10
    have g10 := of_decide_eq_false h10
    refine cw_skip ?_
    refine cw_seq ?_
    refine cw_region ?_
    first | refine lw_val rfl (run_move (v := .int .i64 _) rfl) ?_
    first | refine lw_val rfl (run_assign (v := .int .i64 _) rfl) ?_
    refine lw_nil ?_
    refine cw_ret ?_
    refine res1 (v := .int .i64 _) rfl rfl ?_
    exact ⟨_, rfl, by show Value.int .i64 (n.tmod b) = _; rw [hp g10]; congr 1; omega, hs⟩

/-! ### the manifests of the statements -/
/-- The last k digits of a number. -/
def digR (n : Nat) : Nat → ByteArray
  | 0 => ByteArray.empty
  | i + 1 => ⟨#[UInt8.ofNat (48 + n / 10 ^ i % 10)]⟩ ++ digR n i
def bSeg : ByteArray := ⟨#[115, 101, 103, 45]⟩
def bDash : ByteArray := ⟨#[45]⟩
def bData : ByteArray := ⟨#[100, 97, 116, 97]⟩
def bMarks : ByteArray := ⟨#[109, 97, 114, 107, 115]⟩
def objNm (id : Nat) (kind : ByteArray) (base : Nat) : ByteArray := bSeg ++ digR id 10 ++ bDash ++ kind ++ bDash ++ digR base 13
def oneM (id base : Nat) : Mf := ⟨id, base, base + 5, 0, [(1, base)], [(objNm id bData base, 0, 0), (objNm id bMarks base, 0, 0)]⟩
theorem one23 : ∀ id, id < 6 → mfF (oneM id (10 * id)) = (0, none) := by decide +kernel
theorem one16 : ∀ id, id < 50 → mfF (oneM id (1000 - 10 * id)) = (0, none) := by decide +kernel
theorem oneL : ∀ id, id < 4 → mfF (oneM id (30 - 5 * id)) = (0, none) := by decide +kernel
theorem oneS : ∀ id, id < 6 → mfF (oneM id id) = (0, none) := by decide +kernel
theorem names23 : ∀ i, i < 6 → ∀ j, j < 6 → (objNm i bData (10 * i) ≠ objNm j bMarks (10 * j)) ∧ (objNm i bData (10 * i) = objNm j bData (10 * j) → i = j) ∧ (objNm i bMarks (10 * i) = objNm j bMarks (10 * j) → i = j) := by decide +kernel
end Go.Proofs.YtkogkokmcmallaaGreatDoor
