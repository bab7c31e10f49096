/- The operations' runs, over any program: what each yields, by what its operands are. -/
import Derived.Test.YtmnfehbnjgmgjaaDoorH
namespace Go.Proofs.YtmnfehbnjgmgjaaDoor
set_option linter.all false
open Go.RowKit
variable {P : Program} {ρ : Env} {w : World} {dst : Option Tmp} {ty : TypeId} {pos : String} {aft : Array Edge}

/-- A number that is an int. -/
def InI64 (n : Int) : Prop := -9223372036854775808 ≤ n ∧ n ≤ 9223372036854775807
theorem InI64.wrap {n : Int} (h : InI64 n) : IntKind.i64.wrap n = n := by
  obtain ⟨h1, h2⟩ := h
  have h64 : (2 : Int) ^ 64 = 18446744073709551616 := by decide
  have h63 : (2 : Int) ^ (64 - 1) = 9223372036854775808 := by decide
  simp only [IntKind.wrap, IntKind.bits, IntKind.signed, h64, h63, Bool.true_and, decide_eq_true_eq]
  split <;> omega

theorem run_move {x : Operand} {v : Value} (h : ev ρ x = v) : (execOp (ev ρ) ⟨dst, .move x, ty, pos, aft, none⟩).run P w = .ok (.value v) w := by subst h; rfl
theorem run_assign {x : Operand} {v : Value} (h : ev ρ x = v) : (execOp (ev ρ) ⟨dst, .assign x, ty, pos, aft, none⟩).run P w = .ok (.value v) w := by subst h; rfl
theorem run_pickT {c a b : Operand} {t : Bool} {v : Value} (hc : ev ρ c = .bool t) (ht : t = true) (ha : ev ρ a = v) : (execOp (ev ρ) ⟨dst, .pick c a b, ty, pos, aft, none⟩).run P w = .ok (.value v) w := by
  subst ha ht; simp [execOp, hc, asBool]
theorem run_pickF {c a b : Operand} {t : Bool} {v : Value} (hc : ev ρ c = .bool t) (ht : t = false) (hb : ev ρ b = v) : (execOp (ev ρ) ⟨dst, .pick c a b, ty, pos, aft, none⟩).run P w = .ok (.value v) w := by
  subst hb ht; simp [execOp, hc, asBool]

/-! ### numbers -/
theorem int_beq (a b : Int) : (a == b) = decide (a = b) := by by_cases h : a = b <;> simp [h]
theorem guard_int {op : BinOp} {t : TypeId} {x y : Operand} {k : IntKind} {a : Int} {v : Value} : (eqGuard op t x y (.int k a) v).run P w = .ok () w := by
  cases op <;> rfl
section
variable {x y : Operand} {t u : TypeId} {k k2 : IntKind} {a b : Int}
theorem run_add (hx : ev ρ x = .int k a) (hy : ev ρ y = .int k b) : (execOp (ev ρ) ⟨dst, .binOp .add t x y u, ty, pos, aft, none⟩).run P w = .ok (.value (.int k (k.wrap (a + b)))) w := by
  simp [execOp, hx, hy, guard_int, binOp, Op.intArith]
theorem run_sub (hx : ev ρ x = .int k a) (hy : ev ρ y = .int k b) : (execOp (ev ρ) ⟨dst, .binOp .sub t x y u, ty, pos, aft, none⟩).run P w = .ok (.value (.int k (k.wrap (a - b)))) w := by
  simp [execOp, hx, hy, guard_int, binOp, Op.intArith]
theorem run_mul (hx : ev ρ x = .int k a) (hy : ev ρ y = .int k b) : (execOp (ev ρ) ⟨dst, .binOp .mul t x y u, ty, pos, aft, none⟩).run P w = .ok (.value (.int k (k.wrap (a * b)))) w := by
  simp [execOp, hx, hy, guard_int, binOp, Op.intArith]
theorem run_add64 {c : Int} (hx : ev ρ x = .int .i64 a) (hy : ev ρ y = .int .i64 b) (hc : a + b = c) (h : InI64 c) : (execOp (ev ρ) ⟨dst, .binOp .add t x y u, ty, pos, aft, none⟩).run P w = .ok (.value (.int .i64 c)) w := by
  rw [run_add hx hy, hc, h.wrap]
theorem run_sub64 {c : Int} (hx : ev ρ x = .int .i64 a) (hy : ev ρ y = .int .i64 b) (hc : a - b = c) (h : InI64 c) : (execOp (ev ρ) ⟨dst, .binOp .sub t x y u, ty, pos, aft, none⟩).run P w = .ok (.value (.int .i64 c)) w := by
  rw [run_sub hx hy, hc, h.wrap]
theorem run_mul64 {c : Int} (hx : ev ρ x = .int .i64 a) (hy : ev ρ y = .int .i64 b) (hc : a * b = c) (h : InI64 c) : (execOp (ev ρ) ⟨dst, .binOp .mul t x y u, ty, pos, aft, none⟩).run P w = .ok (.value (.int .i64 c)) w := by
  rw [run_mul hx hy, hc, h.wrap]
theorem run_quo (hx : ev ρ x = .int k a) (hy : ev ρ y = .int k b) (hb : b ≠ 0) : (execOp (ev ρ) ⟨dst, .binOp .quo t x y u, ty, pos, aft, none⟩).run P w = .ok (.value (.int k (k.wrap (a.tdiv b)))) w := by
  simp [execOp, hx, hy, guard_int, binOp, Op.intDiv, hb]
theorem run_rem (hx : ev ρ x = .int k a) (hy : ev ρ y = .int k b) (hb : b ≠ 0) : (execOp (ev ρ) ⟨dst, .binOp .rem t x y u, ty, pos, aft, none⟩).run P w = .ok (.value (.int k (a.tmod b))) w := by
  simp [execOp, hx, hy, guard_int, binOp, Op.intDiv, hb]
theorem run_quo64 {c : Int} (hx : ev ρ x = .int .i64 a) (hy : ev ρ y = .int .i64 b) (hb : 0 < b) (ha : 0 ≤ a) (hc : a / b = c) (h : InI64 a) : (execOp (ev ρ) ⟨dst, .binOp .quo t x y u, ty, pos, aft, none⟩).run P w = .ok (.value (.int .i64 c)) w := by
  have h1 : a.tdiv b = a / b := Int.tdiv_eq_ediv_of_nonneg ha
  have h2 : 0 ≤ a / b := Int.ediv_nonneg ha (by omega)
  have h3 : a / b ≤ a := Int.ediv_le_self b ha
  rw [run_quo hx hy (by omega), h1, InI64.wrap ⟨by omega, by have := h.2; omega⟩, hc]
theorem run_rem64 {c : Int} (hx : ev ρ x = .int .i64 a) (hy : ev ρ y = .int .i64 b) (hb : 0 < b) (ha : 0 ≤ a) (hc : a % b = c) : (execOp (ev ρ) ⟨dst, .binOp .rem t x y u, ty, pos, aft, none⟩).run P w = .ok (.value (.int .i64 c)) w := by
  rw [run_rem hx hy (by omega), Int.tmod_eq_emod_of_nonneg ha, hc]
theorem run_lss (hx : ev ρ x = .int k a) (hy : ev ρ y = .int k b) : (execOp (ev ρ) ⟨dst, .binOp .lss t x y u, ty, pos, aft, none⟩).run P w = .ok (.value (.bool (decide (a < b)))) w := by
  simp [execOp, hx, hy, guard_int, binOp, Op.intCmp]
theorem run_leq (hx : ev ρ x = .int k a) (hy : ev ρ y = .int k b) : (execOp (ev ρ) ⟨dst, .binOp .leq t x y u, ty, pos, aft, none⟩).run P w = .ok (.value (.bool (decide (a ≤ b)))) w := by
  simp [execOp, hx, hy, guard_int, binOp, Op.intCmp]
theorem run_gtr (hx : ev ρ x = .int k a) (hy : ev ρ y = .int k b) : (execOp (ev ρ) ⟨dst, .binOp .gtr t x y u, ty, pos, aft, none⟩).run P w = .ok (.value (.bool (decide (b < a)))) w := by
  simp [execOp, hx, hy, guard_int, binOp, Op.intCmp]
theorem run_geq (hx : ev ρ x = .int k a) (hy : ev ρ y = .int k b) : (execOp (ev ρ) ⟨dst, .binOp .geq t x y u, ty, pos, aft, none⟩).run P w = .ok (.value (.bool (decide (b ≤ a)))) w := by
  simp [execOp, hx, hy, guard_int, binOp, Op.intCmp]
theorem run_eqi (hx : ev ρ x = .int k a) (hy : ev ρ y = .int k b) : (execOp (ev ρ) ⟨dst, .binOp .eql t x y u, ty, pos, aft, none⟩).run P w = .ok (.value (.bool (decide (a = b)))) w := by
  simp [execOp, hx, hy, guard_int, binOp, Op.intCmp, int_beq]
theorem run_nei (hx : ev ρ x = .int k a) (hy : ev ρ y = .int k b) : (execOp (ev ρ) ⟨dst, .binOp .neq t x y u, ty, pos, aft, none⟩).run P w = .ok (.value (.bool (!decide (a = b)))) w := by
  simp [execOp, hx, hy, guard_int, binOp, Op.intCmp, bne, int_beq]
theorem run_bits {op : BinOp} (hop : op = .and ∨ op = .or ∨ op = .xor ∨ op = .andNot) {v : Value} (hx : ev ρ x = .int k a) (hy : ev ρ y = .int k b) (hr : (Op.intBits op k a b).run P w = .ok v w) : (execOp (ev ρ) ⟨dst, .binOp op t x y u, ty, pos, aft, none⟩).run P w = .ok (.value v) w := by
  rcases hop with rfl | rfl | rfl | rfl <;> simp [execOp, hx, hy, guard_int, binOp, hr]
theorem run_neg64 {c : Int} (hx : ev ρ x = .int .i64 a) (hc : -a = c) (h : InI64 c) : (execOp (ev ρ) ⟨dst, .unOp .neg t x, ty, pos, aft, none⟩).run P w = .ok (.value (.int .i64 c)) w := by
  have : (0 : Int) - a = c := by omega
  simp [execOp, hx, Op.unary, Op.intArith, this, h.wrap]
theorem run_conv (hs : P.underlying t = some (.int k2)) (hd : P.underlying u = some (.int k)) (hx : ev ρ x = .int k2 a) : (execOp (ev ρ) ⟨dst, .convert t u x, ty, pos, aft, none⟩).run P w = .ok (.value (.int k (k.wrap a))) w := by
  simp [execOp, convert, run_underlying hs, run_underlying hd, hx, Conv.intToInt]
theorem run_convIn {c : Int} (hs : P.underlying t = some (.int k2)) (hd : P.underlying u = some (.int k)) (hx : ev ρ x = .int k2 a) (hc : k.wrap a = c) : (execOp (ev ρ) ⟨dst, .convert t u x, ty, pos, aft, none⟩).run P w = .ok (.value (.int k c)) w := by
  rw [run_conv hs hd hx, hc]
theorem run_not {p : Bool} (hx : ev ρ x = .bool p) : (execOp (ev ρ) ⟨dst, .unOp .not t x, ty, pos, aft, none⟩).run P w = .ok (.value (.bool (!p))) w := by
  simp [execOp, hx, Op.unary]
theorem run_shr {n : Nat} {c : Int} (hx : ev ρ x = .int k a) (hy : ev ρ y = .int k2 b) (hb : b = n) (hn : n ≤ k.bits) (hc : a / 2 ^ n = c) : (execOp (ev ρ) ⟨dst, .binOp .shr t x y u, ty, pos, aft, none⟩).run P w = .ok (.value (.int k c)) w := by
  subst hb
  have h0 : ¬ (n : Int) < 0 := by omega
  have h1 : min n k.bits = n := Nat.min_eq_left hn
  have h2 : a.fdiv (2 ^ n) = a / 2 ^ n := Int.fdiv_eq_ediv_of_nonneg _ (Int.le_of_lt (Int.pow_pos (by decide)))
  simp [execOp, hx, hy, guard_int, binOp, Op.shift, h0, h1, h2, hc]
theorem run_shl {n : Nat} {c : Int} (hx : ev ρ x = .int k a) (hy : ev ρ y = .int k2 b) (hb : b = n) (hn : n ≤ k.bits) (hc : k.wrap (a * 2 ^ n) = c) : (execOp (ev ρ) ⟨dst, .binOp .shl t x y u, ty, pos, aft, none⟩).run P w = .ok (.value (.int k c)) w := by
  subst hb
  have h0 : ¬ (n : Int) < 0 := by omega
  have h1 : min n k.bits = n := Nat.min_eq_left hn
  simp [execOp, hx, hy, guard_int, binOp, Op.shift, h0, h1, hc]
end

/-! ### strings, bools, pointers, errors -/
theorem bytes_eq (s t : ByteArray) : (s.toList == t.toList) = decide (s = t) := by
  by_cases h : s = t
  · subst h; simp
  · have : s.toList ≠ t.toList := fun e => h (by
      have h1 : s.data.toList = t.data.toList := by rw [← ByteArray.toList_eq, ← ByteArray.toList_eq]; exact e
      cases s; cases t; simp only [ByteArray.mk.injEq]; exact Array.toList_inj.1 h1)
    simp [h, this]
theorem guard_str {op : BinOp} {t : TypeId} {x y : Operand} {a : ByteArray} {v : Value} : (eqGuard op t x y (.string a) v).run P w = .ok () w := by cases op <;> rfl
theorem guard_bool {op : BinOp} {t : TypeId} {x y : Operand} {a : Bool} {v : Value} : (eqGuard op t x y (.bool a) v).run P w = .ok () w := by cases op <;> rfl
theorem guard_ptr {op : BinOp} {t : TypeId} {x y : Operand} {a : Option Addr} {v : Value} : (eqGuard op t x y (.pointer a) v).run P w = .ok () w := by cases op <;> rfl
section
variable {x y : Operand} {t u : TypeId}
theorem run_eqs {a b : ByteArray} (hx : ev ρ x = .string a) (hy : ev ρ y = .string b) : (execOp (ev ρ) ⟨dst, .binOp .eql t x y u, ty, pos, aft, none⟩).run P w = .ok (.value (.bool (decide (a = b)))) w := by
  simp [execOp, hx, hy, guard_str, binOp, Op.stringOp, bytes_eq]
theorem run_nes {a b : ByteArray} (hx : ev ρ x = .string a) (hy : ev ρ y = .string b) : (execOp (ev ρ) ⟨dst, .binOp .neq t x y u, ty, pos, aft, none⟩).run P w = .ok (.value (.bool (!decide (a = b)))) w := by
  simp [execOp, hx, hy, guard_str, binOp, Op.stringOp, bytes_eq]
theorem equal_bool {a b : Bool} (ht : P.underlying t = some .bool) : (Op.equal t (.bool a) (.bool b)).run P w = .ok (a == b) w := by
  show (Op.equalIn 10000 _ _ _).run P w = _
  rw [Op.equalIn]; simp [run_underlying ht]
theorem equal_ptrn {e : TypeId} {a : Option Addr} (ht : P.underlying t = some (.pointer e)) : (Op.equal t (.pointer a) (.pointer none)).run P w = .ok a.isNone w := by
  show (Op.equalIn 10000 _ _ _).run P w = _
  rw [Op.equalIn]; cases a <;> simp [run_underlying ht]
theorem binOp_eqb {a b : Bool} : binOp .eql t (.bool a) (.bool b) = (do pure (.bool (← Op.equal t (.bool a) (.bool b)))) := rfl
theorem binOp_neb {a b : Bool} : binOp .neq t (.bool a) (.bool b) = (do pure (.bool (!(← Op.equal t (.bool a) (.bool b))))) := rfl
theorem binOp_eqp {a b : Option Addr} : binOp .eql t (.pointer a) (.pointer b) = (do pure (.bool (← Op.equal t (.pointer a) (.pointer b)))) := by cases a <;> cases b <;> rfl
theorem binOp_nep {a b : Option Addr} : binOp .neq t (.pointer a) (.pointer b) = (do pure (.bool (!(← Op.equal t (.pointer a) (.pointer b))))) := by cases a <;> cases b <;> rfl
theorem run_eqb {a b : Bool} (ht : P.underlying t = some .bool) (hx : ev ρ x = .bool a) (hy : ev ρ y = .bool b) : (execOp (ev ρ) ⟨dst, .binOp .eql t x y u, ty, pos, aft, none⟩).run P w = .ok (.value (.bool (a == b))) w := by
  simp only [execOp, hx, hy, binOp_eqb]; simp [guard_bool, equal_bool ht]
theorem run_neb {a b : Bool} (ht : P.underlying t = some .bool) (hx : ev ρ x = .bool a) (hy : ev ρ y = .bool b) : (execOp (ev ρ) ⟨dst, .binOp .neq t x y u, ty, pos, aft, none⟩).run P w = .ok (.value (.bool (!(a == b)))) w := by
  simp only [execOp, hx, hy, binOp_neb]; simp [guard_bool, equal_bool ht]
theorem run_eqpn {e : TypeId} {a : Option Addr} (ht : P.underlying t = some (.pointer e)) (hx : ev ρ x = .pointer a) (hy : ev ρ y = .pointer none) : (execOp (ev ρ) ⟨dst, .binOp .eql t x y u, ty, pos, aft, none⟩).run P w = .ok (.value (.bool a.isNone)) w := by
  simp only [execOp, hx, hy, binOp_eqp]; simp [guard_ptr, equal_ptrn ht]
theorem run_nepn {e : TypeId} {a : Option Addr} (ht : P.underlying t = some (.pointer e)) (hx : ev ρ x = .pointer a) (hy : ev ρ y = .pointer none) : (execOp (ev ρ) ⟨dst, .binOp .neq t x y u, ty, pos, aft, none⟩).run P w = .ok (.value (.bool (!a.isNone))) w := by
  simp only [execOp, hx, hy, binOp_nep]; simp [guard_ptr, equal_ptrn ht]
theorem run_indexs {s : ByteArray} {k : IntKind} {i : Nat} {b : UInt8} (ht : P.underlying t = some .string) (hx : ev ρ x = .string s) (hy : ev ρ y = .int k i) (hb : s.data.toList[i]? = some b) : (execOp (ev ρ) ⟨dst, .index t x y, ty, pos, aft, none⟩).run P w = .ok (.value (.int .u8 b.toNat)) w := by
  have h1 : s[i]? = some b := by
    obtain ⟨hlt, rfl⟩ := List.getElem?_eq_some_iff.1 hb
    have hs : i < s.size := by simpa using hlt
    rw [getElem?_pos s i hs]; rfl
  simp [execOp, Instr.index, hx, hy, asIntOf, run_underlying ht, h1]
end

/-! ### parts of tuples, lengths -/
theorem run_extract {x : Operand} {vs : Array Value} {i : Nat} {v : Value} (hx : ev ρ x = .tuple vs) (hv : vs[i]? = some v) : (execOp (ev ρ) ⟨dst, .extract x i, ty, pos, aft, none⟩).run P w = .ok (.value v) w := by
  simp [execOp, hx, Instr.extract, hv]
theorem run_lenS {x : Operand} {t e : TypeId} {a : Option Addr} {n c : Nat} (ht : P.underlying t = some (.slice e)) (hx : ev ρ x = .slice a n c) : (execOp (ev ρ) ⟨dst, .call { callee := .builtin .len, args := #[x], argTypes := #[t] }, ty, pos, aft, none⟩).run P w = .ok (.value (.int .i64 n)) w := by
  simp [execOp, resolve, invoke, builtin, Builtin.len_, run_underlying ht, hx, goInt]
theorem run_lenT {x : Operand} {t : TypeId} {s : ByteArray} (ht : P.underlying t = some .string) (hx : ev ρ x = .string s) : (execOp (ev ρ) ⟨dst, .call { callee := .builtin .len, args := #[x], argTypes := #[t] }, ty, pos, aft, none⟩).run P w = .ok (.value (.int .i64 s.size)) w := by
  simp [execOp, resolve, invoke, builtin, Builtin.len_, run_underlying ht, hx, goInt]
theorem run_min {x y : Operand} {ts : Array TypeId} {k : IntKind} {a b : Int} (hx : ev ρ x = .int k a) (hy : ev ρ y = .int k b) : (execOp (ev ρ) ⟨dst, .call { callee := .builtin .min, args := #[x, y], argTypes := ts }, ty, pos, aft, none⟩).run P w = .ok (.value (.int k (min a b))) w := by
  have : (if b < a then b else a) = min a b := by
    rw [Int.min_def]; split <;> split <;> omega
  simp [execOp, resolve, invoke, builtin, Builtin.min_, hx, hy, Builtin.min2, this]
theorem run_makeFunc {fn : Fn} {cl : List Operand} : (execOp (ev ρ) ⟨dst, .makeFunc fn #[] cl.toArray, ty, pos, aft, none⟩).run P w = .ok (.value (.func fn #[] (cl.map (ev ρ)).toArray)) w := by
  simp [execOp, Instr.makeFunc]
theorem run_nilCheckP {x : Operand} {a : Addr} (hx : ev ρ x = .pointer (some a)) : (execOp (ev ρ) ⟨dst, .nilCheck x, ty, pos, aft, none⟩).run P w = .ok (.value (.pointer (some a))) w := by
  simp [execOp, hx]
theorem run_nilCheckF {x : Operand} {f : FuncId} {a b : Array Value} (hx : ev ρ x = .func (.func f) a b) : (execOp (ev ρ) ⟨dst, .nilCheck x, ty, pos, aft, none⟩).run P w = .ok (.value (.func (.func f) a b)) w := by
  simp [execOp, hx]

/-! ### addresses -/
theorem run_fieldAddr {x : Operand} {s : TypeId} {i : Nat} {fs : Array Field} {f : Field} {sz : Nat} {b o o' : Nat} (hs : P.underlying s = some (.struct fs)) (hf : fs[i]? = some f) (hsz : (P.info? f.type).map (·.size) = some sz) (h0 : Nat.ble 1 sz = true) (hx : ev ρ x = .pointer (some ⟨b, o, none⟩)) (ho : o + f.offset = o') :
    (execOp (ev ρ) ⟨dst, .fieldAddr s x i, ty, pos, aft, none⟩).run P w = .ok (.value (.pointer (some ⟨b, o', none⟩))) w := by
  obtain ⟨inf, hi, hz⟩ := Option.map_eq_some_iff.1 hsz
  have hz0 : inf.size ≠ 0 := by have : 1 ≤ sz := by simpa using h0
                                omega
  simp [execOp, Instr.fieldAt, run_underlying hs, hf, hx, Instr.sureAddr, fieldPlace, sizeOf, typeInfo, hi, hz0, Addr.add_lit, ho]
theorem run_indexAddr {x y : Operand} {t e : TypeId} {k : IntKind} {b o i n c o' : Nat} {z : Int} (ht : P.underlying t = some (.slice e)) (hsz : (P.info? e).map (·.size) = some 1) (hx : ev ρ x = .slice (some ⟨b, o, none⟩) n c) (hy : ev ρ y = .int k z) (hz : z = i) (hi : i < n) (ho : o + i = o') :
    (execOp (ev ρ) ⟨dst, .indexAddr t x y, ty, pos, aft, none⟩).run P w = .ok (.value (.pointer (some ⟨b, o', none⟩))) w := by
  subst hz
  obtain ⟨inf, hinf, hz⟩ := Option.map_eq_some_iff.1 hsz
  simp [execOp, Instr.indexAt, run_underlying ht, hx, hy, asIntOf, hi, sizeOf, typeInfo, hinf, hz, Addr.add_lit, ho]

/-! ### memory -/
def plainD : TypeDesc → Bool
  | .struct _ | .array _ _ => false
  | _ => true
theorem run_isAgg {t : TypeId} {d : TypeDesc} (ht : P.underlying t = some d) (hd : plainD d = true) : (isAgg t).run P w = .ok false w := by
  cases d <;> simp_all [isAgg, run_underlying ht, plainD]
theorem run_load {x : Operand} {t : TypeId} {d : TypeDesc} {b o : Nat} {v : Value} (ht : P.underlying t = some d) (hd : plainD d = true) (hx : ev ρ x = .pointer (some ⟨b, o, none⟩)) (hc : w.cell? ⟨b, o, none⟩ = some v) :
    (execOp (ev ρ) ⟨dst, .load t x, ty, pos, aft, none⟩).run P w = .ok (.value v) w := by
  simp [execOp, Instr.loadAt, hx, Instr.sureAddr, loadVar, run_isAgg ht hd, load, Sem.run, hc]
end Go.Proofs.YtmnfehbnjgmgjaaDoor
