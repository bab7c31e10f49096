/- The law DiskDown: while the power is gone nothing is changed or told. -/
import Derived.Test.YtmnfehbnjgmgjaaDoorDC
namespace Go.Proofs.YtmnfehbnjgmgjaaDoor
set_option linter.all false
open Go.RowKit
attribute [local irreducible] errV
variable {g w : World} {L M : List HP} {ad : Nat → Addr} {p : Nat} {d : Dk}

theorem Dk.begin_down (h : d.down = true) : d.begin = (110, d) := by simp [Dk.begin, h]
theorem Dk.find_down (h : d.down = true) (n : ByteArray) : d.find n = (110, none, d) := by simp [Dk.find, Dk.begin_down h]
theorem Dk.file_down (h : d.down = true) (n : ByteArray) : d.file n = (110, none) := by simp [Dk.file, h]
theorem Dk.create_down (h : d.down = true) (n : ByteArray) : d.create n = (110, d) := by simp [Dk.create, Dk.begin_down h]
theorem Dk.append_down (h : d.down = true) (n : ByteArray) (b : List UInt8) : d.append n b = (110, d) := by simp only [Dk.append, Dk.find_down h]
theorem Dk.cut_down (h : d.down = true) (n : ByteArray) (z : Int) : d.cut n z = (110, d) := by simp only [Dk.cut, Dk.find_down h]
theorem Dk.sync_down (h : d.down = true) (n : ByteArray) : d.sync n = (110, d) := by simp only [Dk.sync, Dk.find_down h]
theorem Dk.rename_down (h : d.down = true) (n m : ByteArray) : d.rename n m = (110, d) := by simp only [Dk.rename, Dk.find_down h]
theorem Dk.remove_down (h : d.down = true) (n : ByteArray) : d.remove n = (110, d) := by simp only [Dk.remove, Dk.find_down h]
theorem Dk.syncDir_down (h : d.down = true) : d.syncDir = (110, d) := by simp [Dk.syncDir, Dk.begin_down h]
theorem Dk.readR_down (h : d.down = true) (n : ByteArray) (o m : Int) : d.readR n o m = (110, []) := by simp only [Dk.readR, Dk.file_down h]
theorem Dk.lenR_down (h : d.down = true) (n : ByteArray) : d.lenR n = (110, 0) := by simp only [Dk.lenR, Dk.file_down h]
theorem Dk.synR_down (h : d.down = true) (n : ByteArray) : d.synR n = (110, 0) := by simp only [Dk.synR, Dk.file_down h]
/-- The disk while the power is gone. -/
abbrev dnD (lb : List UInt8) : Dk := ⟨500, [(nm1 97, 1)], [(nm1 97, 1)], [], 1, 0, true, 4, [(1, ⟨1, lb, lb.length⟩)]⟩
theorem dn_crash (lb : List UInt8) : (dnD lb).crash [] = oneD 500 (nm1 97) [(nm1 97, 1)] [] 4 lb lb.length := by
  have := crash_one [] 500 4 lb.length 0 true (nm1 97) lb (t := lb.length) (by simp [pickN])
  rw [List.take_length] at this
  exact this
end Go.Proofs.YtmnfehbnjgmgjaaDoor
