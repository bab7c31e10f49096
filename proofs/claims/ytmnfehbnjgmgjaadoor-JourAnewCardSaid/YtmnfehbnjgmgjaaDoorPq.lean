/- What is kept aside, in plain words. -/
import Derived.Test.YtmnfehbnjgmgjaaDoorZc
import Derived.Test.YtmnfehbnjgmgjaaDoorCr
import Derived.Test.YtmnfehbnjgmgjaaDoorDc
namespace Go.Proofs.YtmnfehbnjgmgjaaDoor
set_option linter.all false
open Go.RowKit
variable {d : Dk} {n s : ByteArray} {b : List UInt8}

/-- The name beside a name. -/
def newN (s : ByteArray) : ByteArray := s ++ (⟨#[46, 110, 101, 119]⟩ : ByteArray)
def Dk.wstep (s : ByteArray) (b : List UInt8) (k : Nat) (d : Dk) : Nat × Dk := match k with
  | 0 => if (d.lenR (newN s)).1 = 107 then (0, d) else d.remove (newN s)
  | 1 => d.create (newN s)
  | 2 => d.append (newN s) (sealL b)
  | 3 => d.sync (newN s)
  | 4 => d.rename (newN s) s
  | 5 => d.syncDir
  | _ => (0, d)
def Dk.wrun (s : ByteArray) (b : List UInt8) : Nat → Nat → Dk → Nat × Dk
  | 0, _, d => (0, d)
  | f + 1, k, d => if (d.wstep s b k).1 = 0 then Dk.wrun s b f (k + 1) (d.wstep s b k).2 else d.wstep s b k
def Dk.write (s : ByteArray) (b : List UInt8) (d : Dk) : Nat × Dk := if validB s.data.toList = true ∧ validB (newN s).data.toList = true then Dk.wrun s b 6 0 d else (106, d)
def Dk.pread (s : ByteArray) (d : Dk) : Nat × List UInt8 := if (d.lenR s).1 ≠ 0 then ((d.lenR s).1, []) else if (d.readR s 0 ((d.lenR s).2 : Int)).1 ≠ 0 then ((d.readR s 0 ((d.lenR s).2 : Int)).1, []) else openL (d.readR s 0 ((d.lenR s).2 : Int)).2
theorem Dk.lenR_code (n : ByteArray) (d : Dk) : (d.lenR n).1 = 0 ∨ (d.lenR n).1 = 107 ∨ (d.lenR n).1 = 110 := by
  unfold Dk.lenR Dk.file
  cases d.down with
  | true => exact .inr (.inr rfl)
  | false =>
    cases aget d.names n with
    | none => exact .inr (.inl rfl)
    | some i => exact .inl rfl
theorem Dk.ok.lenR_le (h : d.ok) (n : ByteArray) : (d.lenR n).2 ≤ 4194304 := by
  unfold Dk.lenR Dk.file
  cases d.down with
  | true => exact Nat.zero_le _
  | false =>
    cases hn : aget d.names n with
    | none => exact Nat.zero_le _
    | some i =>
      have hi := h.named hn
      exact (h.fid i _ (h.fl_some hi)).2.2
theorem Dk.calls_find (n : ByteArray) (d : Dk) : (d.find n).2.2.calls = d.calls := by
  obtain ⟨_, _, _, _, _, _, h, _⟩ := d.begin_same
  unfold Dk.find
  split <;> exact h
theorem Dk.wstep_calls (s : ByteArray) (b : List UInt8) (k : Nat) (d : Dk) : (d.wstep s b k).2.calls ≤ d.calls + 1 := by
  obtain ⟨_, _, _, _, _, _, hb, _⟩ := d.begin_same
  have hf := fun n => d.calls_find n
  match k with
  | 0 =>
    simp only [Dk.wstep]
    split
    · exact Nat.le_succ _
    · unfold Dk.remove
      have h := hf (newN s)
      revert h
      rcases d.find (newN s) with ⟨c, _ | i, d1⟩ <;> intro h
      · simp only at h ⊢; omega
      · simp only [Dk.change] at h ⊢; omega
  | 1 =>
    simp only [Dk.wstep, Dk.create]
    split
    · simp only; omega
    · split
      · simp only; omega
      · split
        · simp only; omega
        · simp only [Dk.change]; omega
  | 2 =>
    simp only [Dk.wstep, Dk.append]
    have h := hf (newN s)
    revert h
    rcases d.find (newN s) with ⟨c, _ | i, d1⟩ <;> intro h
    · simp only at h ⊢; omega
    · simp only at h ⊢
      split
      · simp only; omega
      · simp only; omega
  | 3 =>
    simp only [Dk.wstep, Dk.sync]
    have h := hf (newN s)
    revert h
    rcases d.find (newN s) with ⟨c, _ | i, d1⟩ <;> intro h
    · simp only at h ⊢; omega
    · simp only at h ⊢; omega
  | 4 =>
    simp only [Dk.wstep, Dk.rename]
    have h := hf (newN s)
    revert h
    rcases d.find (newN s) with ⟨c, _ | i, d1⟩ <;> intro h
    · simp only at h ⊢; omega
    · simp only at h ⊢
      split
      · simp only; omega
      · simp only [Dk.change]; omega
  | 5 =>
    simp only [Dk.wstep, Dk.syncDir]
    split
    · simp only; omega
    · simp only; omega
  | k + 6 => exact Nat.le_succ _
end Go.Proofs.YtmnfehbnjgmgjaaDoor
