/- The law DiskCuts: what is cut is cut, synced at once. -/
import Derived.Test.YtmnfehbnjgmgjaaDoorDK
import Derived.Test.YtmnfehbnjgmgjaaDoorBc
namespace Go.Proofs.YtmnfehbnjgmgjaaDoor
set_option linter.all false
open Go.RowKit
attribute [local irreducible] errV
variable {g w : World} {L M : List HP} {ad : Nat → Addr} {p : Nat} {d : Dk}

/-- A disk of one file. -/
abbrev oneD (room : Nat) (n : ByteArray) (kept : List (ByteArray × Nat)) (ch : List Chg) (calls : Nat) (b : List UInt8) (s : Nat) : Dk := ⟨room, [(n, 1)], kept, ch, 1, 0, false, calls, [(1, ⟨1, b, s⟩)]⟩
theorem crash_one (picks : List Int) (room calls s arm : Nat) (dn : Bool) (n : ByteArray) (b : List UInt8) {t : Nat} (ht : s + pickN picks 1 (b.length - s) = t) : (⟨room, [(n, 1)], [(n, 1)], [], 1, arm, dn, calls, [(1, ⟨1, b, s⟩)]⟩ : Dk).crash picks = oneD room n [(n, 1)] [] calls (b.take t) (b.take t).length := by
  subst ht
  simp [Dk.crash, applyAll, keptIds, keysOf, crashFs, aget, aput, Fl.crashed]
theorem one_lenR (room calls s : Nat) (n : ByteArray) (kept : List (ByteArray × Nat)) (ch : List Chg) (b : List UInt8) : Dk.lenR n (oneD room n kept ch calls b s) = (0, b.length) := by simp [Dk.lenR, Dk.file, aget, Dk.fl]
theorem one_synR (room calls s : Nat) (n : ByteArray) (kept : List (ByteArray × Nat)) (ch : List Chg) (b : List UInt8) : Dk.synR n (oneD room n kept ch calls b s) = (0, s) := by simp [Dk.synR, Dk.file, aget, Dk.fl]
theorem one_names (room calls s : Nat) (n : ByteArray) (kept : List (ByteArray × Nat)) (ch : List Chg) (b : List UInt8) : aget (oneD room n kept ch calls b s).names n = some 1 := by simp [aget]
theorem one_cut_bad (room calls s : Nat) (n : ByteArray) (kept : List (ByteArray × Nat)) (ch : List Chg) (b : List UInt8) {z : Int} (h : z < 0 ∨ (b.length : Int) < z) : (oneD room n kept ch calls b s).cut n z = (105, oneD room n kept ch calls b s) := by
  simp only [Dk.cut, Dk.find_up (d := oneD room n kept ch calls b s) rfl rfl (one_names ..)]
  have h1 : z < 0 ∨ (((oneD room n kept ch calls b s).fl 1).b.length : Int) < z := h
  rw [if_pos h1]
theorem one_cut (room calls s : Nat) (n : ByteArray) (kept : List (ByteArray × Nat)) (ch : List Chg) (b : List UInt8) {q : Nat} (h : q ≤ b.length) : (oneD room n kept ch calls b s).cut n (q : Int) = (0, oneD room n kept ch (calls + 1) (b.take q) q) := by
  have h1 : ¬ ((q : Int) < 0 ∨ (((oneD room n kept ch calls b s).fl 1).b.length : Int) < q) := by show ¬ ((q : Int) < 0 ∨ (b.length : Int) < q); omega
  simp only [Dk.cut, Dk.find_up (d := oneD room n kept ch calls b s) rfl rfl (one_names ..)]
  rw [if_neg h1]
  rfl
end Go.Proofs.YtmnfehbnjgmgjaaDoor
