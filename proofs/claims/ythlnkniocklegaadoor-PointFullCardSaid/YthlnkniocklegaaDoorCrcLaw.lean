/- The sums' plain law: four bits at a time are as one at a time. -/
import Derived.Laws.Bits64
import Derived.Shelf.Spec.TrailingZeros
namespace Go.Proofs.YthlnkniocklegaaDoor
set_option linter.all false

/-- A bit. -/
def crcStep (x : Nat) : Nat := (x / 2) ^^^ (if x % 2 = 1 then 2197175160 else 0)
def crc4 (x : Nat) : Nat := crcStep (crcStep (crcStep (crcStep x)))
theorem xor_swap (x y p : Nat) : x ^^^ (y ^^^ p) = y ^^^ (x ^^^ p) := by rw [← Nat.xor_assoc, Nat.xor_comm x y, Nat.xor_assoc]
theorem crcStep_xor (a b : Nat) : crcStep (a ^^^ b) = crcStep a ^^^ crcStep b := by
  have hm : (a ^^^ b) % 2 = (a % 2) ^^^ (b % 2) := by simpa using Nat.xor_mod_two_pow (a := a) (b := b) (n := 1)
  unfold crcStep
  rw [Nat.xor_div_two, hm]
  rcases Nat.mod_two_eq_zero_or_one a with ha | ha <;> rcases Nat.mod_two_eq_zero_or_one b with hb | hb <;> simp only [ha, hb]
  · simp
  · simp [Nat.xor_assoc]
  · simp only [Nat.reduceEqDiff, Nat.xor_zero, if_true, if_false, Nat.reduceXor, Nat.zero_ne_one]
    rw [Nat.xor_assoc, Nat.xor_assoc, Nat.xor_comm (b / 2)]
  · simp only [Nat.xor_self, Nat.reduceEqDiff, if_true]
    have : ∀ x y p : Nat, x ^^^ p ^^^ (y ^^^ p) = x ^^^ y := fun x y p => by
      rw [Nat.xor_assoc, xor_swap p y p, Nat.xor_self, Nat.xor_zero]
    rw [this]; simp
theorem crcStep_even (q : Nat) : crcStep (2 * q) = q := by simp [crcStep]
theorem crc4_xor (a b : Nat) : crc4 (a ^^^ b) = crc4 a ^^^ crc4 b := by simp only [crc4, crcStep_xor]
theorem crc4_sixteen (q : Nat) : crc4 (16 * q) = q := by
  unfold crc4
  rw [show 16 * q = 2 * (2 * (2 * (2 * q))) by omega, crcStep_even, crcStep_even, crcStep_even, crcStep_even]
theorem split16 (x : Nat) : 16 * (x / 16) ^^^ x % 16 = x := by
  have h1 : (16 * (x / 16) ^^^ x % 16) / 2 ^ 4 = x / 16 := by
    rw [Nat.xor_div_two_pow]
    have a : 16 * (x / 16) / 2 ^ 4 = x / 16 := by omega
    have b : x % 16 / 2 ^ 4 = 0 := by omega
    rw [a, b, Nat.xor_zero]
  have h2 : (16 * (x / 16) ^^^ x % 16) % 2 ^ 4 = x % 16 := by
    rw [Nat.xor_mod_two_pow]
    have a : 16 * (x / 16) % 2 ^ 4 = 0 := by omega
    have b : x % 16 % 2 ^ 4 = x % 16 := by omega
    rw [a, b, Nat.zero_xor]
  have h3 := Nat.div_add_mod (16 * (x / 16) ^^^ x % 16) (2 ^ 4)
  rw [h1, h2] at h3
  omega
theorem crc4_split (x : Nat) : crc4 x = (x / 16) ^^^ crc4 (x % 16) := by
  conv => lhs; rw [← split16 x]
  rw [crc4_xor, crc4_sixteen]
theorem crcStep_lt {x : Nat} (h : x < 4294967296) : crcStep x < 4294967296 := by
  unfold crcStep
  refine Nat.xor_lt_two_pow (n := 32) (by omega) ?_
  split <;> decide
theorem crc4_lt {x : Nat} (h : x < 4294967296) : crc4 x < 4294967296 := crcStep_lt (crcStep_lt (crcStep_lt (crcStep_lt h)))

/-- A byte. -/
def crcByte (s : Nat) (c : UInt8) : Nat := crc4 (crc4 (s ^^^ c.toNat))
theorem crcByte_lt {s : Nat} (h : s < 4294967296) (c : UInt8) : crcByte s c < 4294967296 :=
  crc4_lt (crc4_lt (Nat.xor_lt_two_pow (n := 32) (by omega) (Nat.lt_trans c.toNat_lt (by decide))))
def crcRun (s : Nat) (l : List UInt8) : Nat := l.foldl crcByte s
theorem crcRun_lt : ∀ (l : List UInt8) {s : Nat}, s < 4294967296 → crcRun s l < 4294967296
  | [], _, h => h
  | c :: l, _, h => crcRun_lt l (crcByte_lt h c)
/-- The sum of bytes with more behind. -/
def crcMore (s : Nat) (l : List UInt8) : Nat := 4294967295 ^^^ crcRun (4294967295 ^^^ s) l
theorem not_lt {s : Nat} (h : s < 4294967296) : 4294967295 ^^^ s < 4294967296 := Nat.xor_lt_two_pow (n := 32) (by omega) (by omega)
theorem crcMore_lt {s : Nat} (h : s < 4294967296) (l : List UInt8) : crcMore s l < 4294967296 := not_lt (crcRun_lt l (not_lt h))

theorem bits_xor_u32_nat (a b : Nat) (ha : a < 4294967296) (hb : b < 4294967296) : bits .xor .u32 (a : Int) (b : Int) = ((a ^^^ b : Nat) : Int) := by
  have hx : a ^^^ b < 2 ^ 32 := Nat.xor_lt_two_pow (by omega) (by omega)
  have h1 : (BitVec.ofInt 32 (a : Int)).toNat = a := by
    rw [BitVec.ofInt_natCast, BitVec.toNat_ofNat]; exact Nat.mod_eq_of_lt (by omega)
  have h2 : (BitVec.ofInt 32 (b : Int)).toNat = b := by
    rw [BitVec.ofInt_natCast, BitVec.toNat_ofNat]; exact Nat.mod_eq_of_lt (by omega)
  have hw : ∀ n : Int, IntKind.u32.wrap n = n % 4294967296 := fun n => by simp [IntKind.wrap, IntKind.bits, IntKind.signed]
  show IntKind.u32.wrap ((BitVec.ofInt 32 (a : Int) ^^^ BitVec.ofInt 32 (b : Int)).toNat : Int) = _
  rw [BitVec.toNat_xor, h1, h2, hw]
  omega
theorem not_u32 (s : Nat) (h : s < 4294967296) : bits .xor .u32 IntKind.u32.max (s : Int) = ((4294967295 ^^^ s : Nat) : Int) := by
  have : IntKind.u32.max = ((4294967295 : Nat) : Int) := by decide
  rw [this, bits_xor_u32_nat _ _ (by decide) h]
theorem half_step (y : Nat) (hy : y < 4294967296) : bits .xor .u32 ((y : Int) / 2) (bits .and .u32 (-bits .and .u32 (y : Int) 1 % 4294967296) 2197175160) = ((crcStep y : Nat) : Int) := by
  have e1 : bits .and .u32 (y : Int) 1 = ((y % 2 : Nat) : Int) := by
    have := bits_and_u32_nat y 1 hy (by decide)
    rw [show ((1 : Nat) : Int) = 1 from rfl] at this
    rw [this, show y &&& 1 = y % 2 from Nat.and_two_pow_sub_one_eq_mod y 1]
  rw [e1]
  have hd : ((y : Int) / 2) = ((y / 2 : Nat) : Int) := by omega
  rw [hd]
  unfold crcStep
  rcases Nat.mod_two_eq_zero_or_one y with h | h
  · rw [h]
    have e2 : bits .and .u32 (-((0 : Nat) : Int) % 4294967296) 2197175160 = ((0 : Nat) : Int) := by decide
    rw [e2, bits_xor_u32_nat _ _ (by omega) (by decide)]
    simp
  · rw [h]
    have e2 : bits .and .u32 (-((1 : Nat) : Int) % 4294967296) 2197175160 = ((2197175160 : Nat) : Int) := by decide
    rw [e2, bits_xor_u32_nat _ _ (by omega) (by decide)]
    simp
theorem low_four (y : Nat) (hy : y < 4294967296) : bits .and .u32 (y : Int) 15 = ((y % 16 : Nat) : Int) := by
  have := bits_and_u32_nat y 15 hy (by decide)
  rw [show ((15 : Nat) : Int) = 15 from rfl] at this
  rw [this, show y &&& 15 = y % 16 from Nat.and_two_pow_sub_one_eq_mod y 4]
theorem half_byte (y : Nat) (hy : y < 4294967296) : bits .xor .u32 ((y : Int) / 16) ((crc4 (y % 16) : Nat) : Int) = ((crc4 y : Nat) : Int) := by
  rw [show ((y : Int) / 16) = ((y / 16 : Nat) : Int) by omega, bits_xor_u32_nat _ _ (by omega) (crc4_lt (by omega)), ← crc4_split]
end Go.Proofs.YthlnkniocklegaaDoor
