/- The law DiskKeeps: what was synced, under a name that was synced, is there behind any crash. -/
import Derived.Test.YtmnfehbnjgmgjaaDoorDf
namespace Go.Proofs.YtmnfehbnjgmgjaaDoor
set_option linter.all false
open Go.RowKit
attribute [local irreducible] errV
variable {g w : World} {L M : List HP} {ad : Nat → Addr} {p : Nat} {d : Dk}

theorem Dk.readR_at {n : ByteArray} {i o m : Nat} {F : Fl} (h1 : d.down = false) (hn : aget d.names n = some i) (hf : aget d.fs i = some F) (hl : o + m ≤ F.b.length) : d.readR n o m = (0, (F.b.take (o + m)).drop o) := by
  have e : d.fl i = F := by simp [Dk.fl, hf]
  simp only [Dk.readR, Dk.file, h1, hn, Bool.false_eq_true, if_false, e]
  rw [if_neg (by omega)]
  simp
abbrev kD (names kept : List (ByteArray × Nat)) (ch : List Chg) (files calls : Nat) (fs : List (Nat × Fl)) : Dk := ⟨2000, names, kept, ch, files, 0, false, calls, fs⟩
abbrev chG : Chg := ⟨nm1 103, ByteArray.empty, some 2⟩
theorem keeps_crash (la lb lc : List UInt8) (picks : List Int) : ∃ m kg mg : Nat, la.length ≤ m ∧ m ≤ la.length + lb.length ∧ (kg = 0 ∧ mg = lc.length ∨ kg = 107 ∧ mg = 0) ∧
    Dk.lenR (nm1 102) ((kD [(nm1 102, 1), (nm1 103, 2)] [(nm1 102, 1)] [chG] 2 8 [(1, ⟨1, la ++ lb, la.length⟩), (2, ⟨2, lc, lc.length⟩)]).crash picks) = (0, m) ∧
    Dk.readR (nm1 102) 0 (m : Int) ((kD [(nm1 102, 1), (nm1 103, 2)] [(nm1 102, 1)] [chG] 2 8 [(1, ⟨1, la ++ lb, la.length⟩), (2, ⟨2, lc, lc.length⟩)]).crash picks) = (0, (la ++ lb).take m) ∧
    Dk.synR (nm1 102) ((kD [(nm1 102, 1), (nm1 103, 2)] [(nm1 102, 1)] [chG] 2 8 [(1, ⟨1, la ++ lb, la.length⟩), (2, ⟨2, lc, lc.length⟩)]).crash picks) = (0, m) ∧
    Dk.lenR (nm1 103) ((kD [(nm1 102, 1), (nm1 103, 2)] [(nm1 102, 1)] [chG] 2 8 [(1, ⟨1, la ++ lb, la.length⟩), (2, ⟨2, lc, lc.length⟩)]).crash picks) = (kg, mg) := by
  have hp := pickN_le picks 1 ((la ++ lb).length - la.length)
  obtain ⟨t, ht⟩ : ∃ t, t = la.length + pickN picks 1 ((la ++ lb).length - la.length) := ⟨_, rfl⟩
  simp only [List.length_append] at hp ht
  have htl : t ≤ la.length + lb.length := by omega
  have hlen : ((la ++ lb).take t).length = t := by simp; omega
  have h0 := pickN_le picks 0 1
  have hlc : (lc.take (lc.length + pickN picks 2 (lc.length - lc.length))).length = lc.length := by simp
  rcases Nat.lt_or_ge (pickN picks 0 1) 1 with h | h
  · have e : (kD [(nm1 102, 1), (nm1 103, 2)] [(nm1 102, 1)] [chG] 2 8 [(1, ⟨1, la ++ lb, la.length⟩), (2, ⟨2, lc, lc.length⟩)]).crash picks = kD [(nm1 102, 1)] [(nm1 102, 1)] [] 2 8 [(1, ⟨1, (la ++ lb).take t, ((la ++ lb).take t).length⟩), (2, ⟨2, lc, lc.length⟩)] := by
      unfold Dk.crash
      rw [show pickN picks 0 (List.length _) = 0 from (by show pickN picks 0 1 = 0; omega), ht, ← List.length_append]
      rfl
    rw [e]
    refine ⟨t, 107, 0, by omega, htl, .inr ⟨rfl, rfl⟩, ?_, ?_, ?_, rfl⟩
    · rw [show (0, t) = (0, ((la ++ lb).take t).length) by rw [hlen]]; rfl
    · exact (Dk.readR_at (d := kD [(nm1 102, 1)] [(nm1 102, 1)] [] 2 8 [(1, ⟨1, (la ++ lb).take t, ((la ++ lb).take t).length⟩), (2, ⟨2, lc, lc.length⟩)]) (n := nm1 102) (o := 0) (m := t) rfl rfl rfl (by show 0 + t ≤ ((la ++ lb).take t).length; omega)).trans (by simp [List.take_take])
    · rw [show (0, t) = (0, ((la ++ lb).take t).length) by rw [hlen]]; rfl
  · have e : (kD [(nm1 102, 1), (nm1 103, 2)] [(nm1 102, 1)] [chG] 2 8 [(1, ⟨1, la ++ lb, la.length⟩), (2, ⟨2, lc, lc.length⟩)]).crash picks = kD [(nm1 102, 1), (nm1 103, 2)] [(nm1 102, 1), (nm1 103, 2)] [] 2 8 [(1, ⟨1, (la ++ lb).take t, ((la ++ lb).take t).length⟩), (2, ⟨2, lc.take (lc.length + pickN picks 2 (lc.length - lc.length)), (lc.take (lc.length + pickN picks 2 (lc.length - lc.length))).length⟩)] := by
      unfold Dk.crash
      rw [show pickN picks 0 (List.length _) = 1 from (by show pickN picks 0 1 = 1; omega), ht, ← List.length_append]
      rfl
    rw [e]
    refine ⟨t, 0, lc.length, by omega, htl, .inl ⟨rfl, rfl⟩, ?_, ?_, ?_, ?_⟩
    · rw [show (0, t) = (0, ((la ++ lb).take t).length) by rw [hlen]]; rfl
    · exact (Dk.readR_at (d := kD [(nm1 102, 1), (nm1 103, 2)] [(nm1 102, 1), (nm1 103, 2)] [] 2 8 [(1, ⟨1, (la ++ lb).take t, ((la ++ lb).take t).length⟩), (2, ⟨2, lc.take (lc.length + pickN picks 2 (lc.length - lc.length)), (lc.take (lc.length + pickN picks 2 (lc.length - lc.length))).length⟩)]) (n := nm1 102) (o := 0) (m := t) rfl rfl rfl (by show 0 + t ≤ ((la ++ lb).take t).length; omega)).trans (by simp [List.take_take])
    · rw [show (0, t) = (0, ((la ++ lb).take t).length) by rw [hlen]]; rfl
    · rw [show (0, lc.length) = (0, (lc.take (lc.length + pickN picks 2 (lc.length - lc.length))).length) by rw [hlc]]; rfl
end Go.Proofs.YtmnfehbnjgmgjaaDoor
