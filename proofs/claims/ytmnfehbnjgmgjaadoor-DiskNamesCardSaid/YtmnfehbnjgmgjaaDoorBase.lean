/- Words and laws of my own, over any program: what of the heap stays (Keeps), a slice that reads as a list (seqV), one that may be written (ownV), the walk's step from a run's equation. -/
import Derived.WalkKit
import Derived.Lib.Hide
import Derived.Deep.QuietTactic
import Derived.BigQuiet
import Derived.RangeFuncRecord
import Derived.Deep.AppendSrc
namespace Go.Proofs.YtmnfehbnjgmgjaaDoor
set_option linter.all false
open Go.RowKit

/-! ### what stays -/
/-- Of the blocks that there were only those of F may have turned. -/
structure Keeps (F : Nat → Prop) (w w' : World) : Prop where
  os : w'.os = w.os
  tape : w'.tape = w.tape
  output : w'.output = w.output
  size : w.heap.size ≤ w'.heap.size
  block : ∀ k, k < w.heap.size → ¬ F k → w'.heap[k]? = w.heap[k]?

theorem Keeps.refl (F : Nat → Prop) (w : World) : Keeps F w w := ⟨rfl, rfl, rfl, Nat.le_refl _, fun _ _ _ => rfl⟩
theorem Keeps.trans' {F G : Nat → Prop} {a b c : World} (h : Keeps F a b) (k : Keeps G b c) (hG : ∀ i, i < a.heap.size → G i → F i) : Keeps F a c :=
  ⟨k.os.trans h.os, k.tape.trans h.tape, k.output.trans h.output, Nat.le_trans h.size k.size,
    fun i hi hf => (k.block i (Nat.lt_of_lt_of_le hi h.size) (fun g => hf (hG i hi g))).trans (h.block i hi hf)⟩
theorem Keeps.trans {F : Nat → Prop} {a b c : World} (h : Keeps F a b) (k : Keeps F b c) : Keeps F a c := h.trans' k fun _ _ g => g
theorem Keeps.mono {F G : Nat → Prop} {a b : World} (h : Keeps F a b) (hG : ∀ i, i < a.heap.size → F i → G i) : Keeps G a b :=
  ⟨h.os, h.tape, h.output, h.size, fun i hi hg => h.block i hi fun f => hg (hG i hi f)⟩
theorem Keeps.drew {F : Nat → Prop} {a b : World} (h : Keeps F a b) : Keeps F a b.drew := ⟨h.os, h.tape, h.output, h.size, h.block⟩
theorem Keeps.alloc {F : Nat → Prop} {a b : World} (h : Keeps F a b) (o : Obj) : Keeps F a (b.alloc o) :=
  ⟨h.os, h.tape, h.output, by have := h.size; simp; omega, fun i hi hf => (Below.heap_alloc _ _ _ (Nat.lt_of_lt_of_le hi h.size)).trans (h.block i hi hf)⟩
theorem Keeps.setCell {F : Nat → Prop} {a b : World} (h : Keeps F a b) (p : Addr) (v : Value) (hp : p.block < a.heap.size → F p.block) : Keeps F a (b.setCell p v) :=
  ⟨h.os, h.tape, h.output, by have := h.size; simpa using this, fun i hi hf => (Below.heap_setCell _ _ _ _ (fun e => hf (by rw [e] at hi ⊢; exact hp hi))).trans (h.block i hi hf)⟩
theorem Keeps.of_below {w w' : World} (h : Below w.heap.size w w') (F : Nat → Prop) : Keeps F w w' :=
  ⟨h.os, h.tape, h.output, h.size, fun i hi _ => h.block i hi⟩
theorem Keeps.below {B : Nat} {F : Nat → Prop} {w w' : World} (h : Keeps F w w') (hB : B ≤ w.heap.size) (hF : ∀ i, i < B → ¬ F i) : Below B w w' :=
  ⟨h.os, h.tape, h.output, h.size, fun i hi => h.block i (Nat.lt_of_lt_of_le hi hB) (hF i hi)⟩
theorem Keeps.get {F : Nat → Prop} {w w' : World} (h : Keeps F w w') {k : Nat} {o : Obj} (hk : w.heap[k]? = some o) (hF : ¬ F k) : w'.heap[k]? = some o :=
  (h.block k (lt_of_block hk) hF).trans hk
theorem Keeps.drewN {F : Nat → Prop} {a b : World} (h : Keeps F a b) (n : Nat) : Keeps F a (b.drewN n) := ⟨h.os, h.tape, h.output, h.size, h.block⟩

theorem heap_putObj_same {w : World} {r : Nat} {o o' : Obj} (h : w.heap[r]? = some o') : (w.putObj r o).heap[r]? = some o := World.putObj_heap_same (lt_of_block h)
theorem Keeps.putObj {F : Nat → Prop} {a b : World} (h : Keeps F a b) (r : Nat) (o : Obj) (hr : r < a.heap.size → F r) : Keeps F a (b.putObj r o) :=
  ⟨h.os, h.tape, h.output, by have := h.size; simpa using this, fun i hi hf => (World.putObj_heap_other (fun e => hf (by rw [e] at hi ⊢; exact hr hi))).trans (h.block i hi hf)⟩

/-! ### cells and blocks -/
theorem cell_at {w : World} {b i : Nat} {cs : Array Value} {E : TypeId} {fz : Nat × Nat} {v : Value} (h : w.heap[b]? = some (.cells cs E fz)) (hi : cs[i]? = some v) : w.cell? ⟨b, i, none⟩ = some v := by
  simp [World.cell?, h, hi]
theorem free_at {w : World} {b i : Nat} {cs : Array Value} {E : TypeId} (h : w.heap[b]? = some (.cells cs E (0, 0))) : w.frozen? ⟨b, i, none⟩ = false := by
  simp [World.frozen?, h]
theorem heap_setCell_same {w : World} {b i : Nat} {cs : Array Value} {E : TypeId} {fz : Nat × Nat} {v : Value} (h : w.heap[b]? = some (.cells cs E fz)) : (w.setCell ⟨b, i, none⟩ v).heap[b]? = some (.cells (cs.setIfInBounds i v) E fz) := by
  have hlt := lt_of_block h
  have h' : w.heap[b] = .cells cs E fz := by simpa [Array.getElem?_eq_getElem hlt] using h
  show (w.heap.modify b _)[b]? = _
  rw [Array.getElem?_eq_getElem (by simpa using hlt), Array.getElem_modify_self, h']
  rfl
theorem heap_alloc_old {w : World} {o o' : Obj} {k : Nat} (h : w.heap[k]? = some o') : (w.alloc o).heap[k]? = some o' := (Below.heap_alloc w o k (lt_of_block h)).trans h
theorem heap_setCell_old {w : World} {k : Nat} {o' : Obj} {p : Addr} {v : Value} (h : w.heap[k]? = some o') (hp : k ≠ p.block) : (w.setCell p v).heap[k]? = some o' := (Below.heap_setCell w p v k hp).trans h

theorem cell_putObj {w : World} {r : Nat} {o : Obj} {a : Addr} (h : a.block ≠ r) : (w.putObj r o).cell? a = w.cell? a := by simp [World.cell?, World.putObj_heap_other h]
/-- A block with a cell is no map. -/
theorem ne_of_cell {w : World} {a : Addr} {v : Value} {m : Nat} {arr : Array MapEntry} {clock : Nat} (h : w.cell? a = some v) (hm : w.heap[m]? = some (.map arr clock)) : a.block ≠ m := by
  rintro rfl
  simp [World.cell?, hm] at h

/-! ### slices that read as lists (elements of one cell) -/
def seqV (w : World) (v : Value) (l : List Value) : Prop :=
  ∃ a n c, v = .slice a n c ∧ n = l.length ∧ n ≤ c ∧ (a = none → c = 0) ∧
    (c = 0 ∨ ∃ b off cs E fz, a = some ⟨b, off, none⟩ ∧ w.heap[b]? = some (.cells cs E fz) ∧ off + c ≤ cs.size ∧ ∀ i, i < l.length → cs[off + i]? = l[i]?)
/-- The block in which a slice's array lies. -/
def blk : Value → Option Nat
  | .slice (some a) _ _ => some a.block
  | _ => none
theorem seqV.nil (w : World) : seqV w (.slice none 0 0) [] := ⟨none, 0, 0, rfl, rfl, Nat.le_refl _, fun _ => rfl, .inl rfl⟩
theorem seqV.keep {F : Nat → Prop} {w w' : World} {v : Value} {l : List Value} (h : seqV w v l) (k : Keeps F w w') (hF : ∀ b, blk v = some b → ¬ F b) : seqV w' v l := by
  obtain ⟨a, n, c, rfl, hn, hc, ha, h⟩ := h
  refine ⟨a, n, c, rfl, hn, hc, ha, ?_⟩
  rcases h with h | ⟨b, off, cs, E, fz, rfl, hb, r⟩
  · exact .inl h
  · exact .inr ⟨b, off, cs, E, fz, rfl, k.get hb (hF b rfl), r⟩
theorem seqV.below {B : Nat} {w w' : World} {v : Value} {l : List Value} (h : seqV w v l) (k : Below B w w') (hF : ∀ b, blk v = some b → b < B) : seqV w' v l := by
  obtain ⟨a, n, c, rfl, hn, hc, ha, h⟩ := h
  refine ⟨a, n, c, rfl, hn, hc, ha, ?_⟩
  rcases h with h | ⟨b, off, cs, E, fz, rfl, hb, r⟩
  · exact .inl h
  · exact .inr ⟨b, off, cs, E, fz, rfl, (k.block b (hF b rfl)).trans hb, r⟩
theorem seqV.drew {w : World} {v : Value} {l : List Value} (h : seqV w v l) : seqV w.drew v l := h
/-- What is known where there is an element. -/
theorem seqV.open {w : World} {a : Option Addr} {n c : Nat} {l : List Value} (h : seqV w (.slice a n c) l) :
    n = l.length ∧ n ≤ c ∧ (a = none → c = 0) ∧ (c = 0 ∨ ∃ b off cs E fz, a = some ⟨b, off, none⟩ ∧ w.heap[b]? = some (.cells cs E fz) ∧ off + c ≤ cs.size ∧ ∀ i, i < l.length → cs[off + i]? = l[i]?) := by
  obtain ⟨a', n', c', hv, r⟩ := h
  simp only [Value.slice.injEq] at hv
  obtain ⟨rfl, rfl, rfl⟩ := hv
  exact r
theorem seqV.len {w : World} {a : Option Addr} {n c : Nat} {l : List Value} (h : seqV w (.slice a n c) l) : l.length = n := h.open.1.symm
theorem seqV.cell {w : World} {a : Option Addr} {n c : Nat} {l : List Value} (h : seqV w (.slice a n c) l) {i : Nat} (hi : i < n) :
    ∃ b off, a = some ⟨b, off, none⟩ ∧ b < w.heap.size ∧ ∀ j (hj : j < l.length), w.cell? ⟨b, off + j, none⟩ = some l[j] := by
  obtain ⟨hn, hc, _, h | ⟨b, off, cs, E, fz, rfl, hb, _, hcs⟩⟩ := h.open
  · omega
  · exact ⟨b, off, rfl, lt_of_block hb, fun j hj => cell_at hb (by rw [hcs j hj, List.getElem?_eq_getElem hj])⟩

/-! ### the walk's step from a run's equation -/
section
variable {P : Program} {ops : Array Oper} {Q : Exit → Act → World → Prop} {a : Act} {w : World} {rest : List Oper} {o : Oper}
theorem wpList_run (hg : o.guard = none) {v : Value} {w' : World} (h : (execOp a.eval o).run P w = .ok (.value v) w') (hK : wpList P ops Q rest (a.put o.dst v) w') : wpList P ops Q (o :: rest) a w := by
  refine wpList_plain hg fun K hK' => ?_
  unfold Oper.wp
  rw [h]
  exact hK' _ _ hK
theorem wpList_skips (hg : o.guard = none) {w' : World} (h : (execOp a.eval o).run P w = .ok .skip w') (hK : wpList P ops Q rest (a.put o.dst undef) w') : wpList P ops Q (o :: rest) a w := by
  refine wpList_plain hg fun K hK' => ?_
  unfold Oper.wp
  rw [h]
  exact hK' _ _ hK
end

theorem ret_bool {a b : Bool} (h : a = b) : Ending.returned (.bool a) = .returned (.bool b) := by rw [h]
theorem ret_int {k : IntKind} {a b : Int} (h : a = b) : Ending.returned (.int k a) = .returned (.int k b) := by rw [h]
def u8v (x : UInt8) : Value := .int .u8 x.toNat
end Go.Proofs.YtmnfehbnjgmgjaaDoor
