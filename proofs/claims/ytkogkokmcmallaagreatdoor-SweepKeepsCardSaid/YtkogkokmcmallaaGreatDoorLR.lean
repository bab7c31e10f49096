/- StoreRanges: the walk. -/
import Derived.Test.YtkogkokmcmallaaGreatDoorT2
import Derived.Test.YtkogkokmcmallaaGreatDoorZs
namespace Go.Proofs.YtkogkokmcmallaaGreatDoor
set_option linter.all false
open Go.RowKit
attribute [local irreducible] errV
variable {g w : World} {L M : List HP} {ad : Nat → Addr} {p : Nat} {st : St}

theorem first11_sl (hE : ErrA ad g) (hs : Mem g w L) : Calls Tryz.prog 42 #[] w (Ret fun v w' => v = .bool true ∧ Mem g w' L) := hs.calls (first11_any (hE.atW hs) hs.size)
theorem run_ok {st : St} (h : st.script = []) (good : St → Nat × St) : st.run good = good { st with calls := st.calls + 1 } := by
  have h1 : st.next = 0 := by simp [St.next, h]
  have h2 : st.begin = { st with calls := st.calls + 1 } := by simp [St.begin, St.next, h]
  simp [St.run, h1, h2]
theorem head_ok {st : St} (h : st.script = []) (n : ByteArray) : st.headR n = match aget st.objs n with | some b => ((b.length : Int), ((crcMore 0 b : Nat) : Int), 0, { st with calls := st.calls + 1 }) | none => (0, 0, 107, { st with calls := st.calls + 1 }) := by
  have h1 : st.next = 0 := by simp [St.next, h]
  have h2 : st.begin = { st with calls := st.calls + 1 } := by simp [St.begin, St.next, h]
  cases ho : aget st.objs n <;> simp [St.headR, h1, h2, St.head1, ho]
theorem get_ok {st : St} (h : st.script = []) (n : ByteArray) (off m : Int) : st.getR n off m = ((st.get1 n off m).2, (st.get1 n off m).1, { st with calls := st.calls + 1 }) := by
  have h1 : st.next = 0 := by simp [St.next, h]
  have h2 : st.begin = { st with calls := st.calls + 1 } := by simp [St.begin, St.next, h]
  unfold St.getR
  rw [if_neg (by omega), h2]
  rfl
def nX : ByteArray := ⟨#[120]⟩
def nY : ByteArray := ⟨#[121]⟩
theorem nX_valid : validB nX.data.toList = true := by decide +kernel
theorem nYX : nX ≠ nY := by decide +kernel
/-- The store with one object, behind k calls. -/
def oneSt (n : ByteArray) (l : List UInt8) (k : Nat) : St := { objs := [(n, l)], ups := [], ids := 0, script := [], calls := k, failed := 0 }
theorem oneSt_small (n : ByteArray) {l : List UInt8} (h : l.length ≤ 1000) (k : Nat) : (oneSt n l k).small := ⟨fun m b hm => by simp [oneSt] at hm; rw [hm.2]; omega, fun i u h => by simp [oneSt] at h⟩
theorem put_first {n : ByteArray} (h : validB n.data.toList = true) (l : List UInt8) : St.empty.run (St.put1 n l) = (0, oneSt n l 1) := by
  rw [run_ok rfl]; simp [St.put1, h, St.empty, oneSt, aput]
theorem aget_one (n : ByteArray) (l : List UInt8) (k : Nat) : aget (oneSt n l k).objs n = some l := by simp [oneSt, aget]
theorem aget_two {n m : ByteArray} (h : n ≠ m) (l : List UInt8) (k : Nat) : aget (oneSt n l k).objs m = none := by simp [oneSt, aget, h]

theorem head_one (n : ByteArray) (l : List UInt8) (k : Nat) : (oneSt n l k).headR n = ((l.length : Int), ((crcMore 0 l : Nat) : Int), 0, oneSt n l (k + 1)) := by rw [head_ok rfl, aget_one]; rfl
theorem head_two {n m : ByteArray} (h : n ≠ m) (l : List UInt8) (k : Nat) : (oneSt n l k).headR m = (0, 0, 107, oneSt n l (k + 1)) := by rw [head_ok rfl, aget_two h]; rfl
theorem get_two {n m : ByteArray} (h : n ≠ m) (l : List UInt8) (k : Nat) (i j : Int) : (oneSt n l k).getR m i j = ([], 107, oneSt n l (k + 1)) := by rw [get_ok rfl]; simp only [St.get1, aget_two h]; rfl
theorem get_all (n : ByteArray) (l : List UInt8) (k : Nat) : (oneSt n l k).getR n 0 (l.length : Nat) = (l, 0, oneSt n l (k + 1)) := by
  rw [get_ok rfl]; simp only [St.get1, aget_one]; rw [if_neg (by omega)]; simp; rfl
end Go.Proofs.YtkogkokmcmallaaGreatDoor
