/- The disk in plain words: files by their numbers, names that lead to them, what is kept, changes. -/
import Derived.Test.YtmnfehbnjgmgjaaDoorS
import Derived.Test.YtmnfehbnjgmgjaaDoorLeaf
namespace Go.Proofs.YtmnfehbnjgmgjaaDoor
set_option linter.all false
open Go.RowKit

structure Fl where
  id : Nat
  b : List UInt8
  syn : Nat
structure Chg where
  name : ByteArray
  gone : ByteArray
  f : Option Nat
structure Dk where
  room : Nat
  names : List (ByteArray × Nat)
  kept : List (ByteArray × Nat)
  changes : List Chg
  files : Nat
  armed : Nat
  down : Bool
  calls : Nat
  fs : List (Nat × Fl)
def Dk.empty (room : Nat) : Dk := ⟨room, [], [], [], 0, 0, false, 0, []⟩
/-- Behind the begin of a call that changes. -/
def Dk.begin (d : Dk) : Nat × Dk := if d.down then (110, d) else if d.armed = 0 then (0, d) else if d.armed = 1 then (110, { d with armed := 0, down := true }) else (0, { d with armed := d.armed - 1 })
/-- A file, by its name. -/
def Dk.file (n : ByteArray) (d : Dk) : Nat × Option Nat := if d.down then (110, none) else match aget d.names n with
  | some i => (0, some i)
  | none => (107, none)
def Chg.app (c : Chg) (l : List (ByteArray × Nat)) : List (ByteArray × Nat) :=
  let l1 := if c.gone = ByteArray.empty then l else adel l c.gone
  match c.f with
  | some i => aput l1 c.name i
  | none => l1
def Dk.change (c : Chg) (d : Dk) : Dk := { d with names := c.app d.names, changes := d.changes ++ [c], calls := d.calls + 1 }
def Dk.len (d : Dk) (i : Nat) : Nat := ((aget d.fs i).map (·.b.length)).getD 0
def Dk.used (d : Dk) : Nat := (d.names.map fun x => d.len x.2).sum
/-- Go on with a file; what it is refused with. -/
def Dk.find (n : ByteArray) (d : Dk) : Nat × Option Nat × Dk := if d.begin.1 = 0 then ((d.begin.2.file n).1, (d.begin.2.file n).2, d.begin.2) else (110, none, d.begin.2)
def Dk.setF (d : Dk) (i : Nat) (f : Fl) : Dk := { d with fs := aput d.fs i f }
def Dk.fl (d : Dk) (i : Nat) : Fl := (aget d.fs i).getD ⟨0, [], 0⟩
def Dk.create (n : ByteArray) (d : Dk) : Nat × Dk :=
  if d.begin.1 ≠ 0 then (110, d.begin.2) else
  let d1 := d.begin.2
  if validB n.data.toList = false then (106, d1) else if (aget d1.names n).isSome then (108, d1) else
  (0, ({ d1 with files := d1.files + 1, fs := d1.fs ++ [(d1.files + 1, ⟨d1.files + 1, [], 0⟩)] } : Dk).change ⟨n, ByteArray.empty, some (d1.files + 1)⟩)
def Dk.append (n : ByteArray) (b : List UInt8) (d : Dk) : Nat × Dk :=
  match d.find n with
  | (_, some i, d1) => if d1.room < d1.used + b.length then (109, d1) else (0, { d1.setF i { d1.fl i with b := (d1.fl i).b ++ b } with calls := d1.calls + 1 })
  | (c, none, d1) => (c, d1)
def Dk.cut (n : ByteArray) (k : Int) (d : Dk) : Nat × Dk :=
  match d.find n with
  | (_, some i, d1) => if k < 0 ∨ ((d1.fl i).b.length : Int) < k then (105, d1) else (0, { d1.setF i { d1.fl i with b := (d1.fl i).b.take k.toNat, syn := k.toNat } with calls := d1.calls + 1 })
  | (c, none, d1) => (c, d1)
def Dk.sync (n : ByteArray) (d : Dk) : Nat × Dk :=
  match d.find n with
  | (_, some i, d1) => (0, { d1.setF i { d1.fl i with syn := (d1.fl i).b.length } with calls := d1.calls + 1 })
  | (c, none, d1) => (c, d1)
def Dk.rename (n m : ByteArray) (d : Dk) : Nat × Dk :=
  match d.find n with
  | (_, some i, d1) => if validB m.data.toList = false then (106, d1) else (0, d1.change ⟨m, if n = m then ByteArray.empty else n, some i⟩)
  | (c, none, d1) => (c, d1)
def Dk.remove (n : ByteArray) (d : Dk) : Nat × Dk :=
  match d.find n with
  | (_, some _, d1) => (0, d1.change ⟨ByteArray.empty, n, none⟩)
  | (c, none, d1) => (c, d1)
def Dk.syncDir (d : Dk) : Nat × Dk := if d.begin.1 ≠ 0 then (110, d.begin.2) else (0, { d.begin.2 with kept := d.begin.2.names, changes := [], calls := d.begin.2.calls + 1 })
def Dk.readR (n : ByteArray) (off k : Int) (d : Dk) : Nat × List UInt8 :=
  match d.file n with
  | (_, some i) => if off < 0 ∨ k < 0 ∨ ((d.fl i).b.length : Int) < off ∨ ((d.fl i).b.length : Int) - off < k then (105, []) else (0, ((d.fl i).b.take (off.toNat + k.toNat)).drop off.toNat)
  | (c, none) => (c, [])
def pickN (picks : List Int) (k n : Nat) : Nat := match picks[k]? with
  | some x => (x % ((n : Int) + 1)).toNat
  | none => 0
def applyAll (l : List (ByteArray × Nat)) (cs : List Chg) : List (ByteArray × Nat) := cs.foldl (fun l c => c.app l) l
/-- The files that are kept, by their numbers. -/
def keptIds (fs : List (Nat × Fl)) (kept : List (ByteArray × Nat)) : List Nat := (keysOf fs).filter fun i => decide (i ∈ kept.map (·.2))
def Fl.crashed (f : Fl) (picks : List Int) (k : Nat) : Fl := { f with b := f.b.take (f.syn + pickN picks (k + 1) (f.b.length - f.syn)), syn := (f.b.take (f.syn + pickN picks (k + 1) (f.b.length - f.syn))).length }
def crashFs (picks : List Int) : Nat → List Nat → List (Nat × Fl) → List (Nat × Fl)
  | _, [], fs => fs
  | k, i :: l, fs => crashFs picks (k + 1) l (match aget fs i with | some f => aput fs i (f.crashed picks k) | none => fs)
def Dk.crash (picks : List Int) (d : Dk) : Dk :=
  let kept := applyAll d.kept (d.changes.take (pickN picks 0 d.changes.length))
  { d with kept := kept, names := kept, changes := [], armed := 0, down := false, fs := crashFs picks 0 (keptIds d.fs kept) d.fs }
/-- It hangs together. -/
structure Dk.okB (d : Dk) : Prop where
  room : d.room ≤ 4194304
  ids : (keysOf d.fs).Pairwise (· < ·) ∧ ∀ i ∈ keysOf d.fs, 1 ≤ i ∧ i ≤ d.files
  fid : ∀ i f, aget d.fs i = some f → f.id = i ∧ f.syn ≤ f.b.length ∧ f.b.length ≤ 4194304
  nnd : (keysOf d.names).Nodup
  knd : (keysOf d.kept).Nodup
  nin : ∀ x ∈ d.names, x.2 ∈ keysOf d.fs
  kin : ∀ x ∈ d.kept, x.2 ∈ keysOf d.fs
  cin : ∀ c ∈ d.changes, ∀ i, c.f = some i → i ∈ keysOf d.fs
/-- And its numbers are no more than its calls. -/
structure Dk.ok (d : Dk) : Prop extends Dk.okB d where
  fcl : d.files ≤ d.calls
  nl : d.names.length ≤ d.calls
  kl : d.kept.length + d.changes.length ≤ d.calls
  al : d.armed ≤ 9223372036854775807
end Go.Proofs.YtmnfehbnjgmgjaaDoor
