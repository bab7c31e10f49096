/- How a sign is turned. -/
import Derived.Test.YtkogkokmcmallaaGreatDoorVp
namespace Go.Proofs.YtkogkokmcmallaaGreatDoor
set_option linter.all false
open Go.RowKit

theorem u64_nat (a : Nat) (ha : a < 18446744073709551616) : (BitVec.ofInt 64 (a : Int)).toNat = a := by
  rw [BitVec.ofInt_natCast, BitVec.toNat_ofNat]; exact Nat.mod_eq_of_lt (by omega)
theorem wrap_u64 (n : Int) : IntKind.u64.wrap n = n % 18446744073709551616 := by simp [IntKind.wrap, IntKind.bits, IntKind.signed]
/-- A number without a sign, out of one with. -/
def zig (z : Int) : Nat := if 0 ≤ z then (2 * z).toNat else (-2 * z - 1).toNat
theorem zig_lt {z : Int} (h : InI64 z) : zig z < 18446744073709551616 := by
  obtain ⟨h1, h2⟩ := h
  unfold zig
  split <;> omega
/-! ### how a sign is turned -/
theorem xor_u64 (a b : Nat) (ha : a < 18446744073709551616) (hb : b < 18446744073709551616) : bits .xor .u64 (a : Int) (b : Int) = ((a ^^^ b : Nat) : Int) := by
  have hx : a ^^^ b < 2 ^ 64 := Nat.xor_lt_two_pow (by omega) (by omega)
  show IntKind.u64.wrap ((BitVec.ofInt 64 (a : Int) ^^^ BitVec.ofInt 64 (b : Int)).toNat : Int) = _
  rw [BitVec.toNat_xor, u64_nat a ha, u64_nat b hb, wrap_u64]
  omega
theorem xor_max (a : Nat) (ha : a < 18446744073709551616) : a ^^^ 18446744073709551615 = 18446744073709551615 - a := by
  have h1 : (BitVec.ofNat 64 a ^^^ BitVec.allOnes 64).toNat = 18446744073709551615 - a := by
    rw [BitVec.xor_allOnes, BitVec.toNat_not, BitVec.toNat_ofNat, Nat.mod_eq_of_lt (by omega)]
  rw [BitVec.toNat_xor, BitVec.toNat_ofNat, Nat.mod_eq_of_lt (by omega)] at h1
  exact h1
theorem zig_bits {z : Int} (h : InI64 z) : bits .xor .u64 (IntKind.u64.wrap (IntKind.u64.wrap z * 2 ^ 1)) (IntKind.u64.wrap (z / 2 ^ 63)) = (zig z : Int) := by
  obtain ⟨h1, h2⟩ := h
  have h63 : (2 : Int) ^ 63 = 9223372036854775808 := by decide
  have h21 : (2 : Int) ^ 1 = 2 := by decide
  rw [wrap_u64, wrap_u64, wrap_u64, h63, h21]
  rcases Int.lt_or_le z 0 with hz | hz
  · have e1 : z % 18446744073709551616 * 2 % 18446744073709551616 = (((18446744073709551616 + 2 * z).toNat : Nat) : Int) := by omega
    have e2 : z / 9223372036854775808 % 18446744073709551616 = ((18446744073709551615 : Nat) : Int) := by omega
    rw [e1, e2, xor_u64 _ _ (by omega) (by decide), xor_max _ (by omega)]
    unfold zig
    rw [if_neg (by omega)]
    omega
  · have e1 : z % 18446744073709551616 * 2 % 18446744073709551616 = (((2 * z).toNat : Nat) : Int) := by omega
    have e2 : z / 9223372036854775808 % 18446744073709551616 = ((0 : Nat) : Int) := by omega
    rw [e1, e2, xor_u64 _ _ (by omega) (by decide), Nat.xor_zero]
    unfold zig
    rw [if_pos hz]
end Go.Proofs.YtkogkokmcmallaaGreatDoor
