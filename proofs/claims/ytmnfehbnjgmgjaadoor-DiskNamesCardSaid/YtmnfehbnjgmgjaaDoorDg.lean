/- The disk in plain words: what a call does while the power is there. -/
import Derived.Test.YtmnfehbnjgmgjaaDoorDp
namespace Go.Proofs.YtmnfehbnjgmgjaaDoor
set_option linter.all false
open Go.RowKit
variable {d : Dk} {n m : ByteArray} {i : Nat} {b : List UInt8}

theorem Dk.begin_up (h1 : d.down = false) (h2 : d.armed = 0) : d.begin = (0, d) := by simp [Dk.begin, h1, h2]
theorem Dk.find_up (h1 : d.down = false) (h2 : d.armed = 0) (hn : aget d.names n = some i) : d.find n = (0, some i, d) := by simp [Dk.find, Dk.begin_up h1 h2, Dk.file, h1, hn]
theorem Dk.find_none (h1 : d.down = false) (h2 : d.armed = 0) (hn : aget d.names n = none) : d.find n = (107, none, d) := by simp [Dk.find, Dk.begin_up h1 h2, Dk.file, h1, hn]
theorem Dk.append_up (h1 : d.down = false) (h2 : d.armed = 0) (hn : aget d.names n = some i) (hr : d.used + b.length ≤ d.room) : d.append n b = (0, { d.setF i { d.fl i with b := (d.fl i).b ++ b } with calls := d.calls + 1 }) := by
  simp only [Dk.append, Dk.find_up h1 h2 hn]
  rw [if_neg (by omega)]
theorem Dk.append_full (h1 : d.down = false) (h2 : d.armed = 0) (hn : aget d.names n = some i) (hr : d.room < d.used + b.length) : d.append n b = (109, d) := by
  simp only [Dk.append, Dk.find_up h1 h2 hn]
  rw [if_pos hr]
theorem Dk.sync_up (h1 : d.down = false) (h2 : d.armed = 0) (hn : aget d.names n = some i) : d.sync n = (0, { d.setF i { d.fl i with syn := (d.fl i).b.length } with calls := d.calls + 1 }) := by simp only [Dk.sync, Dk.find_up h1 h2 hn]
theorem Dk.create_up (h1 : d.down = false) (h2 : d.armed = 0) (hv : validB n.data.toList = true) (hn : aget d.names n = none) : d.create n = (0, ({ d with files := d.files + 1, fs := d.fs ++ [(d.files + 1, ⟨d.files + 1, [], 0⟩)] } : Dk).change ⟨n, ByteArray.empty, some (d.files + 1)⟩) := by simp [Dk.create, Dk.begin_up h1 h2, hv, hn]
theorem Dk.remove_up (h1 : d.down = false) (h2 : d.armed = 0) (hn : aget d.names n = some i) : d.remove n = (0, d.change ⟨ByteArray.empty, n, none⟩) := by simp only [Dk.remove, Dk.find_up h1 h2 hn]
theorem Dk.rename_up (h1 : d.down = false) (h2 : d.armed = 0) (hn : aget d.names n = some i) (hv : validB m.data.toList = true) : d.rename n m = (0, d.change ⟨m, if n = m then ByteArray.empty else n, some i⟩) := by
  simp only [Dk.rename, Dk.find_up h1 h2 hn]
  rw [if_neg (by simp [hv])]
theorem Dk.syncDir_up (h1 : d.down = false) (h2 : d.armed = 0) : d.syncDir = (0, { d with kept := d.names, changes := [], calls := d.calls + 1 }) := by simp [Dk.syncDir, Dk.begin_up h1 h2]
end Go.Proofs.YtmnfehbnjgmgjaaDoor
