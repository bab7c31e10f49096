/- Words and laws of my own, over any program: what of the heap stays (Keeps), a slice that reads as a list (seqV), one that may be written (ownV), the walk's step from a run's equation. Laws of the operations on memory, over any program: append onto a slice of one's own from whatever reads as a list; maps by their entries in order. Maps by their entries in order, over any program: what a map holds ('MapAt'), look-up, store, delete, length, and the plain laws of association lists. The leaves: small functions that only reckon; slices.Clone. slices.Clone at []byte and []int. The errors: the sentinels in memory; what cordwoodsee says of them. cordwoodsee: what an error is, as plain data. Bytes, numbers as values. -/
import Derived.WalkKit
import Derived.Lib.Hide
import Derived.Deep.QuietTactic
import Derived.BigQuiet
import Derived.RangeFuncRecord
import Derived.Deep.AppendSrc
import Derived.Great.BuildSlice
import Derived.MapKept
import Derived.Maps.OwnSet
import Derived.Test.YtkogkokmcmallaaGreatDoorProg
import Derived.WalkSpells
import Derived.LaidEql
import Derived.Deep.RegionHeld3
import Derived.Deep.RegionWith
namespace Go.Proofs.YtkogkokmcmallaaGreatDoor
set_option linter.all false
open Go.RowKit

/-! ### what stays -/
/-- Of the blocks that there were only those of F may have turned. -/
structure Keeps (F : Nat → Prop) (w w' : World) : Prop where
  os : w'.os = w.os
  tape : w'.tape = w.tape
  output : w'.output = w.output
  size : w.heap.size ≤ w'.heap.size
  block : ∀ k, k < w.heap.size → ¬ F k → w'.heap[k]? = w.heap[k]?

theorem Keeps.refl (F : Nat → Prop) (w : World) : Keeps F w w := ⟨rfl, rfl, rfl, Nat.le_refl _, fun _ _ _ => rfl⟩
theorem Keeps.trans' {F G : Nat → Prop} {a b c : World} (h : Keeps F a b) (k : Keeps G b c) (hG : ∀ i, i < a.heap.size → G i → F i) : Keeps F a c :=
  ⟨k.os.trans h.os, k.tape.trans h.tape, k.output.trans h.output, Nat.le_trans h.size k.size,
    fun i hi hf => (k.block i (Nat.lt_of_lt_of_le hi h.size) (fun g => hf (hG i hi g))).trans (h.block i hi hf)⟩
theorem Keeps.trans {F : Nat → Prop} {a b c : World} (h : Keeps F a b) (k : Keeps F b c) : Keeps F a c := h.trans' k fun _ _ g => g
theorem Keeps.mono {F G : Nat → Prop} {a b : World} (h : Keeps F a b) (hG : ∀ i, i < a.heap.size → F i → G i) : Keeps G a b :=
  ⟨h.os, h.tape, h.output, h.size, fun i hi hg => h.block i hi fun f => hg (hG i hi f)⟩
theorem Keeps.drew {F : Nat → Prop} {a b : World} (h : Keeps F a b) : Keeps F a b.drew := ⟨h.os, h.tape, h.output, h.size, h.block⟩
theorem Keeps.alloc {F : Nat → Prop} {a b : World} (h : Keeps F a b) (o : Obj) : Keeps F a (b.alloc o) :=
  ⟨h.os, h.tape, h.output, by have := h.size; simp; omega, fun i hi hf => (Below.heap_alloc _ _ _ (Nat.lt_of_lt_of_le hi h.size)).trans (h.block i hi hf)⟩
theorem Keeps.setCell {F : Nat → Prop} {a b : World} (h : Keeps F a b) (p : Addr) (v : Value) (hp : p.block < a.heap.size → F p.block) : Keeps F a (b.setCell p v) :=
  ⟨h.os, h.tape, h.output, by have := h.size; simpa using this, fun i hi hf => (Below.heap_setCell _ _ _ _ (fun e => hf (by rw [e] at hi ⊢; exact hp hi))).trans (h.block i hi hf)⟩
theorem Keeps.of_below {w w' : World} (h : Below w.heap.size w w') (F : Nat → Prop) : Keeps F w w' :=
  ⟨h.os, h.tape, h.output, h.size, fun i hi _ => h.block i hi⟩
theorem Keeps.below {B : Nat} {F : Nat → Prop} {w w' : World} (h : Keeps F w w') (hB : B ≤ w.heap.size) (hF : ∀ i, i < B → ¬ F i) : Below B w w' :=
  ⟨h.os, h.tape, h.output, h.size, fun i hi => h.block i (Nat.lt_of_lt_of_le hi hB) (hF i hi)⟩
theorem Keeps.get {F : Nat → Prop} {w w' : World} (h : Keeps F w w') {k : Nat} {o : Obj} (hk : w.heap[k]? = some o) (hF : ¬ F k) : w'.heap[k]? = some o :=
  (h.block k (lt_of_block hk) hF).trans hk
theorem Keeps.drewN {F : Nat → Prop} {a b : World} (h : Keeps F a b) (n : Nat) : Keeps F a (b.drewN n) := ⟨h.os, h.tape, h.output, h.size, h.block⟩

theorem heap_putObj_same {w : World} {r : Nat} {o o' : Obj} (h : w.heap[r]? = some o') : (w.putObj r o).heap[r]? = some o := World.putObj_heap_same (lt_of_block h)
theorem Keeps.putObj {F : Nat → Prop} {a b : World} (h : Keeps F a b) (r : Nat) (o : Obj) (hr : r < a.heap.size → F r) : Keeps F a (b.putObj r o) :=
  ⟨h.os, h.tape, h.output, by have := h.size; simpa using this, fun i hi hf => (World.putObj_heap_other (fun e => hf (by rw [e] at hi ⊢; exact hr hi))).trans (h.block i hi hf)⟩

/-! ### cells and blocks -/
theorem cell_at {w : World} {b i : Nat} {cs : Array Value} {E : TypeId} {fz : Nat × Nat} {v : Value} (h : w.heap[b]? = some (.cells cs E fz)) (hi : cs[i]? = some v) : w.cell? ⟨b, i, none⟩ = some v := by
  simp [World.cell?, h, hi]
theorem free_at {w : World} {b i : Nat} {cs : Array Value} {E : TypeId} (h : w.heap[b]? = some (.cells cs E (0, 0))) : w.frozen? ⟨b, i, none⟩ = false := by
  simp [World.frozen?, h]
theorem heap_setCell_same {w : World} {b i : Nat} {cs : Array Value} {E : TypeId} {fz : Nat × Nat} {v : Value} (h : w.heap[b]? = some (.cells cs E fz)) : (w.setCell ⟨b, i, none⟩ v).heap[b]? = some (.cells (cs.setIfInBounds i v) E fz) := by
  have hlt := lt_of_block h
  have h' : w.heap[b] = .cells cs E fz := by simpa [Array.getElem?_eq_getElem hlt] using h
  show (w.heap.modify b _)[b]? = _
  rw [Array.getElem?_eq_getElem (by simpa using hlt), Array.getElem_modify_self, h']
  rfl
theorem heap_alloc_old {w : World} {o o' : Obj} {k : Nat} (h : w.heap[k]? = some o') : (w.alloc o).heap[k]? = some o' := (Below.heap_alloc w o k (lt_of_block h)).trans h
theorem heap_setCell_old {w : World} {k : Nat} {o' : Obj} {p : Addr} {v : Value} (h : w.heap[k]? = some o') (hp : k ≠ p.block) : (w.setCell p v).heap[k]? = some o' := (Below.heap_setCell w p v k hp).trans h

theorem cell_putObj {w : World} {r : Nat} {o : Obj} {a : Addr} (h : a.block ≠ r) : (w.putObj r o).cell? a = w.cell? a := by simp [World.cell?, World.putObj_heap_other h]
/-- A block with a cell is no map. -/
theorem ne_of_cell {w : World} {a : Addr} {v : Value} {m : Nat} {arr : Array MapEntry} {clock : Nat} (h : w.cell? a = some v) (hm : w.heap[m]? = some (.map arr clock)) : a.block ≠ m := by
  rintro rfl
  simp [World.cell?, hm] at h

/-! ### slices that read as lists (elements of one cell) -/
def seqV (w : World) (v : Value) (l : List Value) : Prop :=
  ∃ a n c, v = .slice a n c ∧ n = l.length ∧ n ≤ c ∧ (a = none → c = 0) ∧
    (c = 0 ∨ ∃ b off cs E fz, a = some ⟨b, off, none⟩ ∧ w.heap[b]? = some (.cells cs E fz) ∧ off + c ≤ cs.size ∧ ∀ i, i < l.length → cs[off + i]? = l[i]?)
/-- The block in which a slice's array lies. -/
def blk : Value → Option Nat
  | .slice (some a) _ _ => some a.block
  | _ => none
theorem seqV.nil (w : World) : seqV w (.slice none 0 0) [] := ⟨none, 0, 0, rfl, rfl, Nat.le_refl _, fun _ => rfl, .inl rfl⟩
theorem seqV.keep {F : Nat → Prop} {w w' : World} {v : Value} {l : List Value} (h : seqV w v l) (k : Keeps F w w') (hF : ∀ b, blk v = some b → ¬ F b) : seqV w' v l := by
  obtain ⟨a, n, c, rfl, hn, hc, ha, h⟩ := h
  refine ⟨a, n, c, rfl, hn, hc, ha, ?_⟩
  rcases h with h | ⟨b, off, cs, E, fz, rfl, hb, r⟩
  · exact .inl h
  · exact .inr ⟨b, off, cs, E, fz, rfl, k.get hb (hF b rfl), r⟩
theorem seqV.below {B : Nat} {w w' : World} {v : Value} {l : List Value} (h : seqV w v l) (k : Below B w w') (hF : ∀ b, blk v = some b → b < B) : seqV w' v l := by
  obtain ⟨a, n, c, rfl, hn, hc, ha, h⟩ := h
  refine ⟨a, n, c, rfl, hn, hc, ha, ?_⟩
  rcases h with h | ⟨b, off, cs, E, fz, rfl, hb, r⟩
  · exact .inl h
  · exact .inr ⟨b, off, cs, E, fz, rfl, (k.block b (hF b rfl)).trans hb, r⟩
theorem seqV.drew {w : World} {v : Value} {l : List Value} (h : seqV w v l) : seqV w.drew v l := h
/-- What is known where there is an element. -/
theorem seqV.open {w : World} {a : Option Addr} {n c : Nat} {l : List Value} (h : seqV w (.slice a n c) l) :
    n = l.length ∧ n ≤ c ∧ (a = none → c = 0) ∧ (c = 0 ∨ ∃ b off cs E fz, a = some ⟨b, off, none⟩ ∧ w.heap[b]? = some (.cells cs E fz) ∧ off + c ≤ cs.size ∧ ∀ i, i < l.length → cs[off + i]? = l[i]?) := by
  obtain ⟨a', n', c', hv, r⟩ := h
  simp only [Value.slice.injEq] at hv
  obtain ⟨rfl, rfl, rfl⟩ := hv
  exact r
theorem seqV.len {w : World} {a : Option Addr} {n c : Nat} {l : List Value} (h : seqV w (.slice a n c) l) : l.length = n := h.open.1.symm
theorem seqV.cell {w : World} {a : Option Addr} {n c : Nat} {l : List Value} (h : seqV w (.slice a n c) l) {i : Nat} (hi : i < n) :
    ∃ b off, a = some ⟨b, off, none⟩ ∧ b < w.heap.size ∧ ∀ j (hj : j < l.length), w.cell? ⟨b, off + j, none⟩ = some l[j] := by
  obtain ⟨hn, hc, _, h | ⟨b, off, cs, E, fz, rfl, hb, _, hcs⟩⟩ := h.open
  · omega
  · exact ⟨b, off, rfl, lt_of_block hb, fun j hj => cell_at hb (by rw [hcs j hj, List.getElem?_eq_getElem hj])⟩

/-! ### the walk's step from a run's equation -/
section
variable {P : Program} {ops : Array Oper} {Q : Exit → Act → World → Prop} {a : Act} {w : World} {rest : List Oper} {o : Oper}
theorem wpList_run (hg : o.guard = none) {v : Value} {w' : World} (h : (execOp a.eval o).run P w = .ok (.value v) w') (hK : wpList P ops Q rest (a.put o.dst v) w') : wpList P ops Q (o :: rest) a w := by
  refine wpList_plain hg fun K hK' => ?_
  unfold Oper.wp
  rw [h]
  exact hK' _ _ hK
theorem wpList_skips (hg : o.guard = none) {w' : World} (h : (execOp a.eval o).run P w = .ok .skip w') (hK : wpList P ops Q rest (a.put o.dst undef) w') : wpList P ops Q (o :: rest) a w := by
  refine wpList_plain hg fun K hK' => ?_
  unfold Oper.wp
  rw [h]
  exact hK' _ _ hK
end

theorem ret_bool {a b : Bool} (h : a = b) : Ending.returned (.bool a) = .returned (.bool b) := by rw [h]
theorem ret_int {k : IntKind} {a b : Int} (h : a = b) : Ending.returned (.int k a) = .returned (.int k b) := by rw [h]
def u8v (x : UInt8) : Value := .int .u8 x.toNat
end Go.Proofs.YtkogkokmcmallaaGreatDoor
namespace Go.Proofs.YtkogkokmcmallaaGreatDoor
set_option linter.all false
open Go.RowKit
variable {P : Program}

/-- A slice of one's own: it may be written, up to its capacity. -/
def ownV (w : World) (v : Value) (l : List Value) : Prop :=
  ∃ a n c, v = .slice a n c ∧ n = l.length ∧ n ≤ c ∧ ((a = none → c = 0) ∧ ∀ b, blk v = some b → b < w.heap.size) ∧
    (c = 0 ∨ ∃ b off cs E, a = some ⟨b, off, none⟩ ∧ w.heap[b]? = some (.cells cs E (0, 0)) ∧ off + c ≤ cs.size ∧ ∀ i, i < l.length → cs[off + i]? = l[i]?)
theorem ownV.seq {w : World} {v : Value} {l : List Value} (h : ownV w v l) : seqV w v l := by
  obtain ⟨a, n, c, rfl, hn, hc, ha, h⟩ := h
  refine ⟨a, n, c, rfl, hn, hc, ha.1, ?_⟩
  rcases h with h | ⟨b, off, cs, E, rfl, hb, r⟩
  · exact .inl h
  · exact .inr ⟨b, off, cs, E, (0, 0), rfl, hb, r⟩
theorem ownV.lt {w : World} {v : Value} {l : List Value} (h : ownV w v l) : ∀ b, blk v = some b → b < w.heap.size := by
  obtain ⟨a, n, c, rfl, hn, hc, ha, h⟩ := h
  exact ha.2
theorem ownV.nil (w : World) : ownV w (.slice none 0 0) [] := ⟨none, 0, 0, rfl, rfl, Nat.le_refl _, ⟨fun _ => rfl, fun _ h => by cases h⟩, .inl rfl⟩
theorem ownV.keep {F : Nat → Prop} {w w' : World} {v : Value} {l : List Value} (h : ownV w v l) (k : Keeps F w w') (hF : ∀ b, blk v = some b → ¬ F b) : ownV w' v l := by
  obtain ⟨a, n, c, rfl, hn, hc, ha, h⟩ := h
  refine ⟨a, n, c, rfl, hn, hc, ⟨ha.1, fun b hb => Nat.lt_of_lt_of_le (ha.2 b hb) k.size⟩, ?_⟩
  rcases h with h | ⟨b, off, cs, E, rfl, hb, r⟩
  · exact .inl h
  · exact .inr ⟨b, off, cs, E, rfl, k.get hb (hF b rfl), r⟩

theorem heap_setCells {b : Nat} {E : TypeId} : ∀ (vs : List Value) (o : Nat) (w : World) (cs : Array Value), w.heap[b]? = some (.cells cs E (0, 0)) → o + vs.length ≤ cs.size →
    ∃ cs' : Array Value, (w.setCells b o vs).heap[b]? = some (.cells cs' E (0, 0)) ∧ cs'.size = cs.size ∧ (∀ j, j < o → cs'[j]? = cs[j]?) ∧ (∀ j, j < vs.length → cs'[o + j]? = vs[j]?) ∧ (∀ j, o + vs.length ≤ j → cs'[j]? = cs[j]?) ∧ Keeps (· = b) w (w.setCells b o vs) ∧ (w.setCells b o vs).heap.size = w.heap.size
  | [], o, w, cs, h, _ => ⟨cs, h, rfl, fun _ _ => rfl, fun _ hj => absurd hj (by simp), fun _ _ => rfl, Keeps.refl _ _, rfl⟩
  | v :: vs, o, w, cs, h, hs => by
    have h1 := heap_setCell_same (i := o) (v := v) h
    obtain ⟨cs', h2, hsz, hlo, hmid, hhi, hk, hz⟩ := heap_setCells vs (o + 1) (w.setCell ⟨b, o, none⟩ v) (cs.setIfInBounds o v) h1 (by simp at hs ⊢; omega)
    refine ⟨cs', h2, by simpa using hsz, fun j hj => ?_, fun j hj => ?_, fun j hj => ?_, ((Keeps.refl (· = b) w).setCell ⟨b, o, none⟩ v (fun _ => rfl)).trans hk, by rw [World.setCells, hz]; simp⟩
    · rw [hlo j (by omega), Array.getElem?_setIfInBounds_ne (by omega)]
    · cases j with
      | zero => rw [Nat.add_zero, hlo o (by omega), Array.getElem?_setIfInBounds_self_of_lt (by simp at hs; omega)]; rfl
      | succ j => rw [show o + (j + 1) = o + 1 + j by omega, hmid j (by simpa using hj)]; rfl
    · rw [hhi j (by simp at hj ⊢; omega), Array.getElem?_setIfInBounds_ne (by simp at hj; omega)]

/-- What a slice yields to append. -/
theorem src_of_seq {w : World} {v : Value} {l : List Value} {tx e : TypeId} (hk : P.underlying tx = some (.slice e)) (h : seqV w v l) (h1 : ∀ u ∈ l, u.oneCell' = true) : Src P 1 tx v l.length l w := by
  obtain ⟨a, n, c, rfl, hn, hc, ha, h⟩ := h
  subst hn
  cases a with
  | none =>
    have hc0 := ha rfl
    subst hc0
    have : l = [] := List.eq_nil_of_length_eq_zero (by omega)
    subst this
    exact Src.ofNil w hk 0
  | some a =>
    refine Src.ofSlice w hk a l.length c l (by simp) (fun j u hj => ?_) h1
    have hjl := (List.getElem?_eq_some_iff.1 hj).1
    rcases h with h | ⟨b, off, cs, E, fz, ha, hb, _, hcs⟩
    · omega
    · obtain rfl := Option.some.inj ha
      rw [Addr.add_lit]
      exact cell_at hb (by rw [hcs j hjl, hj])

theorem firstCells_own {w : World} {a : Option Addr} {n c : Nat} {l : List Value} (h : ownV w (.slice a n c) l) (w' : World) (hw : ∀ x, w'.cell? x = w.cell? x) : (Builtin.firstCells 1 n (.slice a n c)).run P w' = .ok l.toArray w' := by
  have h0 := h.seq
  clear h
  obtain ⟨hn, hc, ha, h⟩ := h0.open
  clear h0
  subst hn
  cases a with
  | none =>
    have hc0 := ha rfl
    have : l = [] := List.eq_nil_of_length_eq_zero (by omega)
    subst this
    exact run_firstCells_none w' 1 0 0 c
  | some a =>
    refine run_firstCells_some w' 1 l.length a l.length c l (by simp) (fun j u hj => ?_)
    have hjl := (List.getElem?_eq_some_iff.1 hj).1
    rcases h with h | ⟨b, off, cs, E, fz, ha, hb, _, hcs⟩
    · omega
    · obtain rfl := Option.some.inj ha
      rw [Addr.add_lit, hw]
      exact cell_at hb (by rw [hcs j hjl, hj])

/-- append onto a slice of one's own, of whatever reads as a list: elements of one cell. -/
theorem run_append_any {w : World} {t tx ty e : TypeId} {i : TypeInfo} {z : Value} (ht : P.underlying t = some (.slice e)) (hi : P.info? e = some i) (hz : i.zero = some z) (hs : i.size = 1) (hzc : z.cells.size = 1)
    {v x : Value} {xs news : List Value} (hown : ownV w v xs) (hsrc : Src P 1 tx x news.length news w) (hb : (xs.length + news.length) * i.bytes ≤ 140737488355328) (hlen : xs.length + news.length ≤ 9223372036854775807) :
    ∃ v' w', (Builtin.append_ #[t, tx] ty #[v, x]).run P w = .ok v' w' ∧ ownV w' v' (xs ++ news) ∧ Keeps (fun k => blk v = some k) w w' ∧ (v' = v ∧ news = [] ∧ w' = w ∨ blk v' = blk v ∧ (blk v).isSome ∨ blk v' = some w.heap.size) ∧ (v' = .slice none 0 0 → xs ++ news = []) := by
  obtain ⟨a, n, c, rfl, hn, hc, ha, h⟩ := hown
  subst hn
  have hsrc' : Src P i.size tx x news.length news w := by rw [hs]; exact hsrc
  by_cases hroom : xs.length + news.length ≤ c
  · rcases h with h | ⟨b, off, cs, E, rfl, hb', hcap, hcs⟩
    · have hx : xs = [] := List.eq_nil_of_length_eq_zero (by omega)
      have hne : news = [] := List.eq_nil_of_length_eq_zero (by omega)
      subst hx hne h
      refine ⟨.slice a 0 0, w, ?_, ⟨a, 0, 0, rfl, rfl, Nat.le_refl _, ⟨fun _ => rfl, ha.2⟩, .inl rfl⟩, Keeps.refl _ _, .inl ⟨rfl, rfl, rfl⟩, fun _ => rfl⟩
      have hc0 := hsrc.cells
      have hl0 := hsrc.len
      simp only [List.length_nil] at hc0 hl0
      cases a with
      | none => rcases hsrc.kind with ⟨e', hk⟩ | hk <;> simp [Builtin.append_, run_underlying ht, run_underlying hk, sizeOf, typeInfo, hi, hl0, hs, hc0]
      | some a =>
        rcases hsrc.kind with ⟨e', hk⟩ | hk <;> simp [Builtin.append_, run_underlying ht, run_underlying hk, sizeOf, typeInfo, hi, hl0, hs, hc0, storeCells]
    · obtain ⟨cs', h2, hsz, hlo, hmid, _, hk, hz⟩ := heap_setCells news (off + xs.length) w cs hb' (by omega)
      have hr := run_append_room_src (P := P) w t tx ty e i ht hi b off xs.length c x news.length news hsrc' hroom
        (fun j hj => by rw [hs, Nat.mul_one, cell_at hb' (Array.getElem?_eq_getElem (by omega))]; rfl) (fun j _ => free_at hb')
      rw [hs, Nat.mul_one] at hr
      refine ⟨_, _, hr, ⟨_, _, _, rfl, by simp, hroom, ⟨(fun h => by cases h), fun b' hb' => by rw [hz]; exact ha.2 b' hb'⟩, .inr ⟨b, off, cs', E, rfl, h2, by omega, fun j hj => ?_⟩⟩, hk.mono (fun k _ hk => by simp [blk, hk]), .inr (.inl ⟨rfl, rfl⟩), fun h => by simp at h⟩
      by_cases hj' : j < xs.length
      · rw [hlo (off + j) (by omega), hcs j hj', List.getElem?_append_left hj']
      · have := hmid (j - xs.length) (by simp at hj; omega)
        rw [show off + xs.length + (j - xs.length) = off + j by omega] at this
        rw [this, List.getElem?_append_right (by omega)]
  · have hr := run_append_grow_src (P := P) w t tx ty e i z ht hi hz a xs.length c xs (by rw [hs]; exact firstCells_own ⟨a, _, c, rfl, rfl, hc, ha, h⟩ _ (fun _ => rfl)) x news.length news hsrc' (by omega) (by omega) (growslice_fits (by omega) hb)
    have hge := grownCap_ge w (xs.length + news.length) c e
    refine ⟨_, _, hr, ⟨_, _, _, rfl, by simp, hge, ⟨(fun h => by cases h), fun b' hb' => by cases hb'; simp⟩, .inr ⟨_, 0, _, e, rfl, heap_alloc_new _ _, ?_, fun j hj => ?_⟩⟩, ((Keeps.refl _ w).drew).alloc _, .inr (.inr rfl), fun h => by simp at h⟩
    · simp only [Array.size_append, List.size_toArray, List.length_append, size_zeroCells, hzc]; omega
    · rw [Nat.zero_add, Array.getElem?_append_left (by simpa using hj), List.getElem?_toArray]

/-- At an operation 'append' whose guard is none. -/
theorem wpList_append_any {ops : Array Oper} {rest : List Oper} {o : Oper} {a : Act} {w : World} {Q : Exit → Act → World → Prop} (hg : o.guard = none) (s x : Operand) (t tx : TypeId)
    (ho : o.op = .call { callee := .builtin .append, args := #[s, x], argTypes := #[t, tx] })
    {e : TypeId} {i : TypeInfo} {z : Value} (ht : P.underlying t = some (.slice e)) (hi : P.info? e = some i) (hz : i.zero = some z) (hs : i.size = 1) (hzc : z.cells.size = 1)
    {v xv : Value} {xs news : List Value} (hv : a.eval s = v) (hx : a.eval x = xv) (hown : ownV w v xs) (hsrc : Src P 1 tx xv news.length news w) (hb : (xs.length + news.length) * i.bytes ≤ 140737488355328) (hlen : xs.length + news.length ≤ 9223372036854775807)
    (hK : ∀ v' w', ownV w' v' (xs ++ news) → Keeps (fun k => blk v = some k) w w' → (v' = v ∧ news = [] ∧ w' = w ∨ blk v' = blk v ∧ (blk v).isSome ∨ blk v' = some w.heap.size) → (v' = .slice none 0 0 → xs ++ news = []) → wpList P ops Q rest (a.put o.dst v') w') :
    wpList P ops Q (o :: rest) a w := by
  obtain ⟨v', w', hrun, h1, h2, h3, h4⟩ := run_append_any (ty := o.type) ht hi hz hs hzc hown hsrc hb hlen
  refine wpList_run hg (v := v') (w' := w') ?_ (hK v' w' h1 h2 h3 h4)
  obtain ⟨dst, op, type, pos, after, guard⟩ := o
  dsimp only at ho hrun
  subst ho hv hx
  rw [BigFrame.execOp_builtin, BigFrame.builtin_append]
  have hm : (#[s, x] : Array Operand).map a.eval = #[a.eval s, a.eval x] := by simp
  rw [hm]
  simp only [Sem.run_bind, hrun, Result.andThen, Sem.run_pure]

/-- A slice literal, every place written, elements of one cell. -/
theorem wpList_buildSeq {ops : Array Oper} {rest : List Oper} {o : Oper} {a : Act} {w : World} {Q : Exit → Act → World → Prop} (hg : o.guard = none) (t : TypeId) (len : Nat) (parts : Array (Nat × Operand)) (ho : o.op = .buildSlice t len parts)
    {e : TypeId} {i : TypeInfo} {z : Value} (hu : P.underlying t = some (.slice e)) (hi : P.info? e = some i) (hz : i.zero = some z) (hs : i.size = 1) (vs : List Value)
    (hparts : (parts.toList.map fun p => (p.1, a.eval p.2)) = (vs.zipIdx 0).map fun x => (x.2, x.1)) (h1 : ∀ u ∈ vs, u.cells = #[u]) (hlen : len = vs.length) (hpos : 0 < len) (hsmall : len ≤ 16777216)
    (h : wpList P ops Q rest (a.put o.dst (.slice (some ⟨w.heap.size, 0, none⟩) len len)) (w.alloc (.cells vs.toArray e))) : wpList P ops Q (o :: rest) a w := by
  refine wpList_buildSlice hg t e len parts ho _ i z hu hi hz (by rw [hs]; omega) (by rw [hs]; omega) ?_ h
  rw [Array.toList_map, show (fun (x : Nat × Operand) => match x with | (i, x) => (i, a.eval x)) = (fun p => (p.1, a.eval p.2)) from rfl, hparts, hs]
  exact Great.fill_flat _ _ h1 (by simp [hlen])

/-- A whole struct is stored into a block of its size. -/
theorem wpList_storeRow {ops : Array Oper} {rest : List Oper} {o : Oper} {a : Act} {w : World} {Q : Exit → Act → World → Prop} (hgd : o.guard = none) (ty : TypeId) (x y : Operand) (ho : o.op = .store ty x y)
    (g : Nat) (cells : Array Value) (hx : a.eval x = .pointer (some ⟨g, 0, none⟩)) (hy : a.eval y = .agg cells)
    {t : TypeId} {old : Array Value} (hg : w.heap[g]? = some (.cells old t (0, 0))) (hi : (P.info? ty).map (·.size) = some cells.size)
    (hold : old.size = cells.size) (h1 : cells.all (·.oneCell') = true)
    (h : ∀ w' : World, w'.heap[g]? = some (.cells cells t (0, 0)) → Keeps (· = g) w w' → w'.heap.size = w.heap.size → wpList P ops Q rest (a.put o.dst undef) w') : wpList P ops Q (o :: rest) a w :=
  wpList_store_row hgd ty x y ho g cells hx hy t old hg hi hold h1
    (h _ (setRow_heap w g old cells t (0, 0) hg) ⟨rfl, rfl, rfl, by simp [World.setRow], fun k _ hk => setRow_other w g k cells hk⟩ (by simp [World.setRow]))
theorem run_loadVar_row {w : World} {T : TypeId} {b : Nat} {vs : Array Value} {E : TypeId} {fz : Nat × Nat} (hagg : (isAgg T).run P w = .ok true w) (hi : (P.info? T).map (·.size) = some vs.size) (hb : w.heap[b]? = some (.cells vs E fz)) :
    (loadVar T ⟨b, 0, none⟩).run P w = .ok (.agg vs) w := by
  obtain ⟨i, hi, hs⟩ := Option.map_eq_some_iff.1 hi
  have hl : (loadCells ⟨b, 0, none⟩ vs.size).run P w = .ok vs w := by
    have := run_loadCells_list (P := P) w ⟨b, 0, none⟩ vs.toList (fun j v hj => by rw [Addr.add_lit, Nat.zero_add]; exact cell_at hb (by simpa using hj))
    simpa using this
  simp [loadVar, hagg, sizeOf, typeInfo, hi, hs, hl, Sem.run_bind, Result.andThen]
theorem results_row {fn : Func} {t : Tmp} {T : TypeId} (h : fn.results = #[.cell t T]) {tmps : Array Value} {w : World} {b : Nat} {vs : Array Value} {E : TypeId} {fz : Nat × Nat} (hp : tmps.getD t undef = .pointer (some ⟨b, 0, none⟩))
    (hagg : (isAgg T).run P w = .ok true w) (hi : (P.info? T).map (·.size) = some vs.size) (hb : w.heap[b]? = some (.cells vs E fz)) : (results fn tmps).run P w = .ok (.agg vs) w := by
  rw [Array.getD_eq_getD_getElem?] at hp
  simp [results, h, hp, asAddr, run_loadVar_row hagg hi hb]
/-- One cell is stored: the world behind it is only known by its blocks. -/
theorem wpList_storeCell {ops : Array Oper} {rest : List Oper} {o : Oper} {a : Act} {w : World} {Q : Exit → Act → World → Prop} (hgd : o.guard = none) (ty : TypeId) (x y : Operand) (ho : o.op = .store ty x y)
    (b i : Nat) (v : Value) (hx : a.eval x = .pointer (some ⟨b, i, none⟩)) (hy : a.eval y = v)
    {t : TypeId} {cs : Array Value} (hg : w.heap[b]? = some (.cells cs t (0, 0))) (hi : (P.info? ty).map (·.size) = some 1) (hlt : i < cs.size) (h1 : v.oneCell' = true)
    (h : ∀ w' : World, w'.heap[b]? = some (.cells (cs.setIfInBounds i v) t (0, 0)) → Keeps (· = b) w w' → w'.heap.size = w.heap.size → wpList P ops Q rest (a.put o.dst undef) w') : wpList P ops Q (o :: rest) a w := by
  obtain ⟨inf, hinf, hs⟩ := Option.map_eq_some_iff.1 hi
  have hcell : w.cell? ⟨b, i, none⟩ = some cs[i] := cell_at hg (Array.getElem?_eq_getElem hlt)
  have hfree : w.frozen? ⟨b, i, none⟩ = false := free_at hg
  refine wpList_skips hgd (w' := w.setCell ⟨b, i, none⟩ v) ?_ (h _ (heap_setCell_same hg) ((Keeps.refl _ w).setCell _ _ fun _ => rfl) (by simp))
  unfold execOp
  simp only [ho, hx, hy]
  have hst : (storeVar ty ⟨b, i, none⟩ v).run P w = .ok () (w.setCell ⟨b, i, none⟩ v) := by
    cases v <;> first
      | (simp [Value.oneCell'] at h1; done)
      | simp [storeVar, sizeOf, typeInfo, hinf, hs, Value.cells, storeCells, store, Sem.run, hcell, hfree, Addr.add]
  simp [Instr.storeAt, hst, Instr.sureAddr]
/-- A function value without parameters is called, by what is known of its call. -/
theorem wpList_callValue {ops : Array Oper} {rest : List Oper} {o : Oper} {a : Act} {w : World} {Q : Exit → Act → World → Prop} (hgd : o.guard = none) (x : Operand) (ats : Array TypeId) (ho : o.op = .call { callee := .value x, args := #[], argTypes := ats })
    {f : FuncId} {cap : Array Value} (hx : a.eval x = .func (.func f) #[] cap) (hf : ∀ w, (callFunc f cap).run P w = .ok (.enter f cap) w)
    {S : Value → World → Prop} (hc : Calls P f cap w fun e w2 => ∃ v, e = .returned v ∧ S v w2) (h : ∀ v w2, S v w2 → wpList P ops Q rest (a.put o.dst v) w2) : wpList P ops Q (o :: rest) a w := by
  refine wpList_plain hgd fun K hK => ?_
  have hr : (execOp a.eval o).run P w = .ok (.enter f cap) w := by
    unfold execOp
    simp [ho, resolve, hx, Deferred.ofValue, invoke, hf]
  unfold Oper.wp
  rw [hr, Oper.upon_enter]
  refine hc.mono ?_
  rintro e w2 ⟨v, rfl, hs⟩
  exact hK _ _ (h v w2 hs)
end Go.Proofs.YtkogkokmcmallaaGreatDoor
namespace Go.Proofs.YtkogkokmcmallaaGreatDoor
set_option linter.all false
open Go.RowKit Go.MapKept
variable {P : Program} {κ : Type} {α β : Type}
section lists
variable [DecidableEq κ]

/-! ### association lists -/
def aget : List (κ × α) → κ → Option α
  | [], _ => none
  | (k', v) :: r, k => if k' = k then some v else aget r k
def aput : List (κ × α) → κ → α → List (κ × α)
  | [], k, v => [(k, v)]
  | (k', v') :: r, k, v => if k' = k then (k, v) :: r else (k', v') :: aput r k v
def adel : List (κ × α) → κ → List (κ × α)
  | [], _ => []
  | (k', v') :: r, k => if k' = k then r else (k', v') :: adel r k
def keysOf (l : List (κ × α)) : List κ := l.map (·.1)

theorem aget_put_same (l : List (κ × α)) (k : κ) (v : α) : aget (aput l k v) k = some v := by
  induction l with
  | nil => simp [aput, aget]
  | cons p l ih => obtain ⟨k', v'⟩ := p; by_cases h : k' = k <;> simp [aput, aget, h, ih]
theorem aget_put_other (l : List (κ × α)) {k k2 : κ} (v : α) (h : k2 ≠ k) : aget (aput l k v) k2 = aget l k2 := by
  induction l with
  | nil => simp [aput, aget, Ne.symm h]
  | cons p l ih =>
    obtain ⟨k', v'⟩ := p
    by_cases h1 : k' = k
    · subst h1; simp [aput, aget, Ne.symm h]
    · by_cases h2 : k' = k2
      · subst h2; simp [aput, aget, h1]
      · simp [aput, aget, h1, h2, ih]
theorem aget_none_iff (l : List (κ × α)) (k : κ) : aget l k = none ↔ k ∉ keysOf l := by
  induction l with
  | nil => simp [aget, keysOf]
  | cons p l ih =>
    obtain ⟨k', v'⟩ := p
    by_cases h : k' = k
    · simp [aget, keysOf, h]
    · have h' : ¬ k = k' := fun e => h e.symm
      simp only [aget, h, if_false, ih, keysOf, List.map_cons, List.mem_cons, h', false_or]
theorem aget_mem {l : List (κ × α)} {k : κ} {v : α} (h : aget l k = some v) : (k, v) ∈ l := by
  induction l with
  | nil => simp [aget] at h
  | cons p l ih =>
    obtain ⟨k', v'⟩ := p
    by_cases h1 : k' = k
    · subst h1; simp [aget] at h; simp [h]
    · simp only [aget, h1, if_false] at h; exact .tail _ (ih h)
theorem mem_aget {l : List (κ × α)} (hn : (keysOf l).Nodup) {k : κ} {v : α} (h : (k, v) ∈ l) : aget l k = some v := by
  induction l with
  | nil => cases h
  | cons p l ih =>
    obtain ⟨k', v'⟩ := p
    simp only [keysOf, List.map_cons, List.nodup_cons] at hn
    rcases List.mem_cons.1 h with h | h
    · cases h; simp [aget]
    · have : k' ≠ k := fun e => hn.1 (List.mem_map.2 ⟨(k, v), h, e.symm⟩)
      simp only [aget, this, if_false]
      exact ih hn.2 h
theorem keys_put (l : List (κ × α)) (k : κ) (v : α) : keysOf (aput l k v) = if k ∈ keysOf l then keysOf l else keysOf l ++ [k] := by
  induction l with
  | nil => simp [aput, keysOf]
  | cons p l ih =>
    obtain ⟨k', v'⟩ := p
    by_cases h : k' = k
    · subst h; simp [aput, keysOf]
    · have h' : ¬ k = k' := fun e => h e.symm
      simp only [keysOf] at ih ⊢
      by_cases h2 : k ∈ l.map (·.1) <;> simp [aput, h, h', h2, ih]
theorem nodup_put {l : List (κ × α)} (hn : (keysOf l).Nodup) (k : κ) (v : α) : (keysOf (aput l k v)).Nodup := by
  rw [keys_put]
  split
  · exact hn
  · rename_i h
    rw [List.nodup_append]
    exact ⟨hn, by simp, fun a ha b hb => by simp at hb; subst hb; exact fun e => h (e ▸ ha)⟩
theorem keys_del {l : List (κ × α)} (hn : (keysOf l).Nodup) (k : κ) : keysOf (adel l k) = (keysOf l).filter (fun x => decide (x ≠ k)) := by
  induction l with
  | nil => simp [adel, keysOf]
  | cons p l ih =>
    obtain ⟨k', v'⟩ := p
    simp only [keysOf, List.map_cons, List.nodup_cons] at hn
    by_cases h : k' = k
    · subst h
      have : List.filter (fun x => decide (x ≠ k')) (l.map (·.1)) = l.map (·.1) := List.filter_eq_self.2 fun a ha => by simp; exact fun e => hn.1 (e ▸ ha)
      simpa [adel, keysOf] using this.symm
    · have ih' := ih hn.2
      simp only [keysOf] at ih' ⊢
      simp only [adel, h, if_false, List.map_cons, ih']
      rw [List.filter_cons_of_pos (by simp [h])]
theorem nodup_del {l : List (κ × α)} (hn : (keysOf l).Nodup) (k : κ) : (keysOf (adel l k)).Nodup := by
  rw [keys_del hn]; exact hn.filter _
theorem aget_del_same {l : List (κ × α)} (hn : (keysOf l).Nodup) (k : κ) : aget (adel l k) k = none := by
  rw [aget_none_iff, keys_del hn]; simp
theorem aget_del_other (l : List (κ × α)) {k k2 : κ} (h : k2 ≠ k) : aget (adel l k) k2 = aget l k2 := by
  induction l with
  | nil => simp [adel]
  | cons p l ih =>
    obtain ⟨k', v'⟩ := p
    by_cases h1 : k' = k
    · subst h1; simp [adel, aget, Ne.symm h]
    · by_cases h2 : k' = k2
      · subst h2; simp [adel, aget, h1]
      · simp [adel, aget, h1, h2, ih]
end lists
/-- Two lists of one make: the same keys, and what stands behind them is related. -/
def ARel (R : α → β → Prop) : List (κ × α) → List (κ × β) → Prop
  | [], [] => True
  | p :: l, q :: m => (p.1 = q.1 ∧ R p.2 q.2) ∧ ARel R l m
  | _, _ => False
/-- By both lists at once. -/
theorem arel_ind {R : α → β → Prop} {M : List (κ × α) → List (κ × β) → Prop} (h0 : M [] []) (h1 : ∀ k a b l m, R a b → ARel R l m → M l m → M ((k, a) :: l) ((k, b) :: m)) :
    ∀ (l : List (κ × α)) (m : List (κ × β)), ARel R l m → M l m
  | [], [], _ => h0
  | (k, a) :: l, (k', b) :: m, h => by
    obtain ⟨⟨hk, hr⟩, ht⟩ := h
    dsimp only at hk hr
    subst hk
    exact h1 k a b l m hr ht (arel_ind h0 h1 l m ht)
  | [], _ :: _, h => h.elim
  | _ :: _, [], h => h.elim
theorem ARel.keys {R : α → β → Prop} {l : List (κ × α)} {m : List (κ × β)} (h : ARel R l m) : keysOf l = keysOf m :=
  arel_ind (M := fun (l : List (κ × α)) (m : List (κ × β)) => keysOf l = keysOf m) rfl (fun k a b l m _ _ ih => by simp only [keysOf, List.map_cons] at ih ⊢; rw [ih]) l m h
theorem ARel.mono {R S : α → β → Prop} {l : List (κ × α)} {m : List (κ × β)} (h : ARel R l m) (hs : ∀ k a b, (k, a) ∈ l → (k, b) ∈ m → R a b → S a b) : ARel S l m :=
  arel_ind (M := fun l m => (∀ k a b, (k, a) ∈ l → (k, b) ∈ m → R a b → S a b) → ARel S l m) (fun _ => trivial)
    (fun k a b _ _ hr _ ih hs => ⟨⟨rfl, hs k a b (.head _) (.head _) hr⟩, ih fun k' a' b' ha hb => hs k' a' b' (.tail _ ha) (.tail _ hb)⟩) l m h hs
theorem ARel.get [DecidableEq κ] {R : α → β → Prop} {l : List (κ × α)} {m : List (κ × β)} (h : ARel R l m) (k : κ) : (aget l k = none ∧ aget m k = none) ∨ ∃ a b, aget l k = some a ∧ aget m k = some b ∧ R a b :=
  arel_ind (M := fun l m => (aget l k = none ∧ aget m k = none) ∨ ∃ a b, aget l k = some a ∧ aget m k = some b ∧ R a b) (.inl ⟨rfl, rfl⟩)
    (fun k' a b l m hr _ ih => by
      by_cases e : k' = k
      · exact .inr ⟨a, b, by simp [aget, e], by simp [aget, e], hr⟩
      · simpa only [aget, e, if_false] using ih) l m h
theorem ARel.put [DecidableEq κ] {R : α → β → Prop} {l : List (κ × α)} {m : List (κ × β)} (h : ARel R l m) (k : κ) {a : α} {b : β} (hab : R a b) : ARel R (aput l k a) (aput m k b) :=
  arel_ind (M := fun l m => ARel R (aput l k a) (aput m k b)) ⟨⟨rfl, hab⟩, trivial⟩
    (fun k' a' b' l m hr ht ih => by
      by_cases e : k' = k
      · simp only [aput, e, if_true]; exact ⟨⟨rfl, hab⟩, ht⟩
      · simp only [aput, e, if_false]; exact ⟨⟨rfl, hr⟩, ih⟩) l m h
theorem ARel.del [DecidableEq κ] {R : α → β → Prop} {l : List (κ × α)} {m : List (κ × β)} (h : ARel R l m) (k : κ) : ARel R (adel l k) (adel m k) :=
  arel_ind (M := fun l m => ARel R (adel l k) (adel m k)) trivial
    (fun k' a' b' l m hr ht ih => by
      by_cases e : k' = k
      · simp only [adel, e, if_true]; exact ht
      · simp only [adel, e, if_false]; exact ⟨⟨rfl, hr⟩, ih⟩) l m h

/-! ### a map in memory -/
/-- How keys of a kind stand as values. -/
structure KeyKind (d : TypeDesc) (enc : κ → Value) : Prop where
  isKey : ∀ k, IsKey d (enc k)
  inj : ∀ a b, enc a = enc b → a = b
theorem strKind : KeyKind .string Value.string := ⟨fun _ => trivial, fun a b h => by cases h; rfl⟩
theorem intKind : KeyKind (.int .i64) (Value.int .i64) := ⟨fun _ => rfl, fun a b h => by cases h; rfl⟩

def kv (e : MapEntry) : Value × Value := (e.key, e.val)
def ekv (enc : κ → Value) (p : κ × Value) : Value × Value := (enc p.1, p.2)
/-- Block m is a map of these entries, in this order. -/
def MapAt (w : World) (enc : κ → Value) (m : Nat) (es : List (κ × Value)) : Prop :=
  ∃ arr clock, w.heap[m]? = some (.map arr clock) ∧ arr.toList.map kv = es.map (ekv enc) ∧ Stamped arr clock
theorem MapAt.keep {F : Nat → Prop} {w w' : World} {enc : κ → Value} {m : Nat} {es : List (κ × Value)} (h : MapAt w enc m es) (k : Keeps F w w') (hF : ¬ F m) : MapAt w' enc m es := by
  obtain ⟨arr, clock, hb, r⟩ := h
  exact ⟨arr, clock, k.get hb hF, r⟩
theorem MapAt.lt {w : World} {enc : κ → Value} {m : Nat} {es : List (κ × Value)} (h : MapAt w enc m es) : m < w.heap.size := by
  obtain ⟨arr, clock, hb, r⟩ := h
  exact lt_of_block hb
theorem MapAt.made (w : World) (enc : κ → Value) : MapAt (w.alloc (.map #[] 0)) enc w.heap.size [] :=
  ⟨#[], 0, World.alloc_heap_new w _, rfl, by simp [Stamped]⟩
theorem MapAt.nodup {w : World} {enc : κ → Value} {m : Nat} {es : List (κ × Value)} (h : MapAt w enc m es) : (keysOf es).Nodup := by
  obtain ⟨arr, clock, _, he, _, _, hn⟩ := h
  have : arr.toList.map (·.key) = (keysOf es).map enc := by
    have := congrArg (List.map Prod.fst) he
    simpa [kv, ekv, keysOf, List.map_map, Function.comp_def] using this
  rw [this] at hn
  rw [List.Nodup, List.pairwise_map] at hn
  exact hn.imp fun h e => h (by rw [e])

theorem findNow_get [DecidableEq κ] {d : TypeDesc} {enc : κ → Value} (K : KeyKind d enc) (k : κ) : ∀ (l : List MapEntry) (es : List (κ × Value)) (i : Nat), l.map kv = es.map (ekv enc) →
    (Instr.findNow d (enc k) l i = some none ∧ aget es k = none ∧ ∀ v, aput es k v = es ++ [(k, v)]) ∨
    ∃ j v, Instr.findNow d (enc k) l i = some (some (i + j, v)) ∧ aget es k = some v ∧ (∃ e, l[j]? = some e ∧ e.key = enc k) ∧ (∀ u, (l.set j ⟨enc k, u, (l[j]?.map (·.born)).getD 0⟩).map kv = (aput es k u).map (ekv enc)) ∧ (l.eraseIdx j).map kv = (adel es k).map (ekv enc)
  | [], es, i, h => by
    cases es with
    | nil => exact .inl ⟨rfl, rfl, fun _ => rfl⟩
    | cons p es => cases h
  | e :: l, es, i, h => by
    cases es with
    | nil => cases h
    | cons p es =>
      obtain ⟨k', v'⟩ := p
      simp only [List.map_cons, List.cons.injEq] at h
      obtain ⟨h1, h2⟩ := h
      simp only [kv, ekv, Prod.mk.injEq] at h1
      obtain ⟨hk, hv⟩ := h1
      obtain ⟨r, hr, hiff⟩ := sameNow_of_keys (K.isKey k) (K.isKey k')
      rw [← hk] at hr
      cases r with
      | true =>
        have e1 : k = k' := K.inj _ _ (hiff.1 rfl)
        subst e1
        refine .inr ⟨0, v', by simp [Instr.findNow, hr, hv], by simp [aget], ⟨e, rfl, hk⟩, fun u => ?_, ?_⟩
        · simp [aput, kv, ekv, h2]
        · simpa [adel] using h2
      | false =>
        have hne : ¬ k' = k := fun q => by have := hiff.2 (by rw [q]); cases this
        rcases findNow_get K k l es (i + 1) h2 with ⟨g1, g2, g3⟩ | ⟨j, v, g1, g2, g3, g4, g5⟩
        · exact .inl ⟨by simp [Instr.findNow, hr, g1], by simp [aget, hne, g2], fun v => by simp [aput, hne, g3]⟩
        · refine .inr ⟨j + 1, v, by simp [Instr.findNow, hr, g1]; omega, by simp [aget, hne, g2], by simpa using g3, fun u => ?_, ?_⟩
          · have := g4 u
            simp only [aput, hne, if_false, List.set_cons_succ, List.map_cons, List.getElem?_cons_succ, this]
            simp [kv, ekv, hk, hv]
          · simp only [adel, hne, if_false, List.eraseIdx_cons_succ, List.map_cons, g5]
            simp [kv, ekv, hk, hv]

section ops
variable [DecidableEq κ] {w : World} {d : TypeDesc} {enc : κ → Value}
theorem run_lookup_at (K : KeyKind d enc) {T kt et : TypeId} (hT : P.underlying T = some (.map kt et)) (hk : P.underlying kt = some d) {m : Nat} {es : List (κ × Value)} (h : MapAt w enc m es) (k : κ) {z : Value} (hz : (zeroValue et).run P w = .ok z w) (ok : Bool) :
    (Instr.lookup T (.map (some m)) (enc k) ok).run P w = .ok (if ok then .tuple #[(aget es k).getD z, .bool (aget es k).isSome] else (aget es k).getD z) w := by
  obtain ⟨arr, clock, hb, he, hs⟩ := h
  rcases findNow_get K k arr.toList es 0 he with ⟨g1, g2, _⟩ | ⟨j, v, g1, g2, _⟩
  · simp [Instr.lookup, run_underlying hT, MapKept.run_getObj_map hb, run_checkKey hk (K.isKey k), run_findKey hk g1, g2, hz, Result.andThen]
  · simp [Instr.lookup, run_underlying hT, MapKept.run_getObj_map hb, run_checkKey hk (K.isKey k), run_findKey hk g1, g2, Result.andThen]
theorem run_update_at (K : KeyKind d enc) {T kt et : TypeId} (hT : P.underlying T = some (.map kt et)) (hk : P.underlying kt = some d) {m : Nat} {es : List (κ × Value)} (h : MapAt w enc m es) (k : κ) (v : Value) :
    ∃ o, (Instr.mapUpdate T (.map (some m)) (enc k) v).run P w = .ok () (w.putObj m o) ∧ MapAt (w.putObj m o) enc m (aput es k v) := by
  obtain ⟨arr, clock, hb, he, hs⟩ := h
  rcases findNow_get K k arr.toList es 0 he with ⟨g1, g2, g3⟩ | ⟨j, v', g1, g2, ⟨e, g3, g3k⟩, g4, _⟩
  · refine ⟨.map (arr.push { key := enc k, val := v, born := clock }) (clock + 1), ?_, _, _, heap_putObj_same hb, ?_, ?_⟩
    · simp [Instr.mapUpdate, run_underlying hT, MapKept.run_getObj_map hb, run_checkKey hk (K.isKey k), run_findKey hk g1, MapKept.run_setObj_map _ hb, Result.andThen, World.putObj]
    · rw [g3]
      simp [he, kv, ekv]
    · have hkeys : arr.toList.map (·.key) = (keysOf es).map enc := by
        have := congrArg (List.map Prod.fst) he
        simpa [kv, ekv, keysOf, List.map_map, Function.comp_def] using this
      obtain ⟨s1, s2, s3⟩ := hs
      refine ⟨fun x hx => ?_, ?_, ?_⟩
      · rw [Array.toList_push, List.mem_append] at hx
        rcases hx with hx | hx
        · have := s1 x hx; omega
        · simp at hx; subst hx; simp
      · simp only [Array.toList_push, List.map_append, List.map_cons, List.map_nil]
        rw [List.nodup_append]
        refine ⟨s2, by simp, fun a ha b hb' => ?_⟩
        obtain ⟨x, hx, rfl⟩ := List.mem_map.1 ha
        simp at hb'; subst hb'
        have := s1 x hx
        omega
      · simp only [Array.toList_push, List.map_append, List.map_cons, List.map_nil]
        rw [List.nodup_append]
        refine ⟨s3, by simp, fun a ha b hb' => ?_⟩
        simp at hb'; subst hb'
        rw [hkeys] at ha
        obtain ⟨q, hq, rfl⟩ := List.mem_map.1 ha
        intro e
        exact (aget_none_iff es k).1 g2 (K.inj _ _ e ▸ hq)
  · have g3' : arr[j]? = some e := by simpa using g3
    refine ⟨.map (arr.modify j fun e => { e with key := enc k, val := v }) clock, ?_, _, _, heap_putObj_same hb, ?_, ?_⟩
    · simp [Instr.mapUpdate, run_underlying hT, MapKept.run_getObj_map hb, run_checkKey hk (K.isKey k), run_findKey hk g1, g3', g3k, run_keyThatStays (K.isKey k), MapKept.run_setObj_map _ hb, Result.andThen, World.putObj]
    · rw [← g4 v]
      congr 1
      rw [g3]
      apply List.ext_getElem?
      intro i
      simp only [Array.getElem?_toList, Array.getElem?_modify, List.getElem?_set]
      by_cases hij : j = i
      · subst hij
        simp only [if_true, g3', Option.map_some, Option.getD_some]
        rw [if_pos (by simpa using (Array.getElem?_eq_some_iff.1 g3').1)]
      · simp [hij]
    · obtain ⟨s1, s2, s3⟩ := hs
      have hkeys := modify_keys j (fun e => { e with key := enc k, val := v }) (es := arr) (fun e' he' => by rw [g3'] at he'; cases he'; exact g3k.symm)
      have hborn : (arr.modify j fun e => { e with key := enc k, val := v }).toList.map (·.born) = arr.toList.map (·.born) := by
        apply List.ext_getElem?
        intro i
        simp only [List.getElem?_map, Array.getElem?_toList, Array.getElem?_modify]
        by_cases hij : j = i
        · subst hij; cases arr[j]? <;> simp
        · simp [hij]
      refine ⟨fun x hx => ?_, hborn ▸ s2, hkeys ▸ s3⟩
      have : x.born ∈ (arr.modify j fun e => { e with key := enc k, val := v }).toList.map (·.born) := List.mem_map.2 ⟨x, hx, rfl⟩
      rw [hborn] at this
      obtain ⟨y, hy, e'⟩ := List.mem_map.1 this
      rw [← e']; exact s1 y hy
theorem run_delete_at (K : KeyKind d enc) {T kt et : TypeId} (hT : P.underlying T = some (.map kt et)) (hk : P.underlying kt = some d) {m : Nat} {es : List (κ × Value)} (h : MapAt w enc m es) (k : κ) (ty : TypeId) :
    ∃ o, (Builtin.delete_ #[T, kt] ty #[.map (some m), enc k]).run P w = .ok (.tuple #[]) (w.putObj m o) ∧ MapAt (w.putObj m o) enc m (adel es k) := by
  obtain ⟨arr, clock, hb, he, hs⟩ := h
  rcases findNow_get K k arr.toList es 0 he with ⟨g1, g2, g3⟩ | ⟨j, v', g1, g2, ⟨e, g3, g3k⟩, _, g5⟩
  · refine ⟨.map arr clock, ?_, _, _, heap_putObj_same hb, ?_, hs⟩
    · simp [Builtin.delete_, run_underlying hT, MapKept.run_getObj_map hb, run_checkKey hk (K.isKey k), run_findKey hk g1, MapKept.run_setObj_map _ hb, Result.andThen, World.putObj]
    · rw [he]
      congr 1
      have : k ∉ keysOf es := (aget_none_iff es k).1 g2
      clear he hs g1 g3
      induction es with
      | nil => rfl
      | cons p es ih =>
        obtain ⟨k', v'⟩ := p
        have h1 : ¬ k' = k := fun e => this (by simp [keysOf, e])
        simp only [adel, h1, if_false]
        rw [← ih (by simpa [aget, h1] using g2) (fun hm => this (.tail _ hm))]
  · refine ⟨.map (arr.eraseIdxIfInBounds j) clock, ?_, _, _, heap_putObj_same hb, ?_, stamped_erase hs j⟩
    · simp [Builtin.delete_, run_underlying hT, MapKept.run_getObj_map hb, run_checkKey hk (K.isKey k), run_findKey hk g1, MapKept.run_setObj_map _ hb, Result.andThen, World.putObj]
    · rw [← g5]
      congr 1
      have hj : j < arr.size := by simpa using (List.getElem?_eq_some_iff.1 g3).1
      simp [Array.eraseIdxIfInBounds, hj, Array.toList_eraseIdx]
end ops
end Go.Proofs.YtkogkokmcmallaaGreatDoor
namespace Go.Proofs.YtkogkokmcmallaaGreatDoor
set_option linter.all false
open Go.RowKit

/-! ### names -/
def smallB (c : Int) : Bool := decide (97 ≤ c) && decide (c ≤ 122)
def nameC (c : Int) : Bool := smallB c || (decide (48 ≤ c) && decide (c ≤ 57)) || c == 46 || c == 45 || c == 95
def validB (l : List UInt8) : Bool := decide (1 ≤ l.length) && decide (l.length ≤ 64) && l.all fun c => nameC c.toNat

theorem small_any (c : Int) (w : World) :
    Calls Tryz.prog 182 #[.int .u8 c] w fun e w' => e = .returned (.bool (smallB c)) ∧ w = w' := by
  by_cases h : 97 ≤ c
  · go_enter Tryz.func182, Tryz.ntmps182
    go_wp2
    go_ret
    exact ⟨ret_bool (by rw [smallB, decide_eq_true h, Bool.true_and]), rfl⟩
  · have hb : smallB c = false := by simp [smallB]; omega
    go_enter Tryz.func182, Tryz.ntmps182
    go_wp2
    go_ret
    exact ⟨rfl, rfl⟩

theorem all_take_snoc (s : ByteArray) (k : Nat) (h : k < s.size) (p : UInt8 → Bool) : (s.data.toList.take (k + 1)).all p = ((s.data.toList.take k).all p && p s[k]) := by
  rw [List.take_succ_eq_append_getElem (by simpa using h), List.all_append]
  simp only [List.all_cons, List.all_nil, Bool.and_true]
  rfl
theorem all_false_of {l : List UInt8} {p : UInt8 → Bool} {k : Nat} (h : k < l.length) (hp : p l[k] = false) : l.all p = false := by
  rw [List.all_eq_false]
  exact ⟨l[k], List.getElem_mem h, by simp [hp]⟩

set_option maxHeartbeats 800000 in
theorem valid_any (s : ByteArray) (w : World) :
    Calls Tryz.prog 93 #[.string s] w fun e w' => e = .returned (.bool (validB s.data.toList)) ∧ w = w' := by
  by_cases h : 1 ≤ s.size
  · by_cases h2 : s.size ≤ 64
    · go_enter Tryz.func93, Tryz.ntmps93
      go_wp2
      go_loop [15] (fun i => ∃ k : Nat, k ≤ s.size ∧ i = .int .i64 k ∧ (s.data.toList.take k).all (fun c => nameC c.toNat) = true) (fun i => s.size - (intOf i).toNat)
      case atStart => exact ⟨0, Nat.zero_le _, rfl, rfl⟩
      case round =>
        obtain ⟨k, hk, rfl, hall⟩ := hrel
        have Hall := Lib.hid hall
        clear hall
        by_cases hlt : k < s.size
        · have hstep := all_take_snoc s k hlt (fun c => nameC c.toNat)
          have Hs := Lib.hid hstep
          clear hstep
          have hkl : k < s.data.toList.length := by simpa using hlt
          have hget : s.data.toList[k] = s[k] := by rw [Array.getElem_toList]; rfl
          have Hg := Lib.hid hget
          clear hget
          have hgo : nameC (s[k].toNat : Int) = true → ((s.data.toList.take (k + 1)).all fun c => nameC c.toNat) = true := fun h => by rw [Hs.out, Hall.out, h]; rfl
          have hno : nameC (s[k].toNat : Int) = false → validB s.data.toList = false := fun h => by
            have := all_false_of (p := fun c => nameC c.toNat) hkl (by rw [Hg.out]; exact h)
            simp [validB, this]
          cases hs : smallB (s[k].toNat : Int) with
          | true =>
            have hn : nameC (s[k].toNat : Int) = true := by simp [nameC, hs]
            have h1 := hgo hn
            clear hgo hno hn
            have H1 := Lib.hid h1
            clear h1
            go_wp2_with (go_at_call 182; refine (small_any _ _).mono ?_; rintro e w' ⟨rfl, rfl⟩)
            go_round
            case rel => exact ⟨k + 1, by omega, by go_num, H1.out⟩
            case measure => simp [intOf]; omega
          | false =>
            rcases (by omega : s[k].toNat = 46 ∨ s[k].toNat = 45 ∨ s[k].toNat = 95 ∨ (48 ≤ s[k].toNat ∧ s[k].toNat ≤ 57) ∨ (s[k].toNat ≠ 46 ∧ s[k].toNat ≠ 45 ∧ s[k].toNat ≠ 95 ∧ (s[k].toNat < 48 ∨ 57 < s[k].toNat))) with hc | hc | hc | hc | hc
            · have b46 : ((s[k].toNat : Int) != 46) = false := by rw [bne_eq_false_iff_eq]; omega
              have b45 : ((s[k].toNat : Int) != 45) = true := by rw [bne_iff_ne]; omega
              have b95 : ((s[k].toNat : Int) != 95) = true := by rw [bne_iff_ne]; omega
              have hn : nameC (s[k].toNat : Int) = true := by simp [nameC]; omega
              have h1 := hgo hn
              clear hgo hno hn
              have H1 := Lib.hid h1
              clear h1
              have hlo : (0 : Int) ≤ (s[k].toNat : Int) := by omega
              have hlt48 : (s[k].toNat : Int) < 48 := by omega
              clear hc
              go_wp2_with (go_at_call 182; refine (small_any _ _).mono ?_; rintro e w' ⟨rfl, rfl⟩)
              all_goals
                go_round
                case rel => exact ⟨k + 1, by omega, by go_num, H1.out⟩
                case measure => simp [intOf]; omega
            · have b46 : ((s[k].toNat : Int) != 46) = true := by rw [bne_iff_ne]; omega
              have b45 : ((s[k].toNat : Int) != 45) = false := by rw [bne_eq_false_iff_eq]; omega
              have b95 : ((s[k].toNat : Int) != 95) = true := by rw [bne_iff_ne]; omega
              have hn : nameC (s[k].toNat : Int) = true := by simp [nameC]; omega
              have h1 := hgo hn
              clear hgo hno hn
              have H1 := Lib.hid h1
              clear h1
              have hlo : (0 : Int) ≤ (s[k].toNat : Int) := by omega
              have hlt48 : (s[k].toNat : Int) < 48 := by omega
              clear hc
              go_wp2_with (go_at_call 182; refine (small_any _ _).mono ?_; rintro e w' ⟨rfl, rfl⟩)
              all_goals
                go_round
                case rel => exact ⟨k + 1, by omega, by go_num, H1.out⟩
                case measure => simp [intOf]; omega
            · have b46 : ((s[k].toNat : Int) != 46) = true := by rw [bne_iff_ne]; omega
              have b45 : ((s[k].toNat : Int) != 45) = true := by rw [bne_iff_ne]; omega
              have b95 : ((s[k].toNat : Int) != 95) = false := by rw [bne_eq_false_iff_eq]; omega
              have hn : nameC (s[k].toNat : Int) = true := by simp [nameC]; omega
              have h1 := hgo hn
              clear hgo hno hn
              have H1 := Lib.hid h1
              clear h1
              have hlo : (0 : Int) ≤ (s[k].toNat : Int) := by omega
              have hlt48 : (s[k].toNat : Int) > 57 := by omega
              clear hc
              go_wp2_with (go_at_call 182; refine (small_any _ _).mono ?_; rintro e w' ⟨rfl, rfl⟩)
              all_goals
                go_round
                case rel => exact ⟨k + 1, by omega, by go_num, H1.out⟩
                case measure => simp [intOf]; omega
            · have b46 : ((s[k].toNat : Int) != 46) = true := by rw [bne_iff_ne]; omega
              have b45 : ((s[k].toNat : Int) != 45) = true := by rw [bne_iff_ne]; omega
              have b95 : ((s[k].toNat : Int) != 95) = true := by rw [bne_iff_ne]; omega
              have hn : nameC (s[k].toNat : Int) = true := by simp [nameC]; omega
              have h1 := hgo hn
              clear hgo hno hn
              have H1 := Lib.hid h1
              clear h1
              have hlo : (0 : Int) ≤ (s[k].toNat : Int) := by omega
              obtain ⟨hc1, hc2⟩ := hc
              go_wp2_with (go_at_call 182; refine (small_any _ _).mono ?_; rintro e w' ⟨rfl, rfl⟩)
              all_goals
                go_round
                case rel => exact ⟨k + 1, by omega, by go_num, H1.out⟩
                case measure => simp [intOf]; omega
            · have b46 : ((s[k].toNat : Int) != 46) = true := by rw [bne_iff_ne]; omega
              have b45 : ((s[k].toNat : Int) != 45) = true := by rw [bne_iff_ne]; omega
              have b95 : ((s[k].toNat : Int) != 95) = true := by rw [bne_iff_ne]; omega
              have hn : nameC (s[k].toNat : Int) = false := by simp [nameC, hs]; omega
              have h1 := hno hn
              clear hgo hno hn
              have H1 := Lib.hid h1
              clear h1
              obtain ⟨hc1, hc2, hc3, hc⟩ := hc
              clear hc1 hc2 hc3
              rcases hc with hc | hc
              · go_wp2_with (go_at_call 182; refine (small_any _ _).mono ?_; rintro e w' ⟨rfl, rfl⟩)
                go_ret
                exact ⟨ret_bool H1.out.symm, rfl⟩
              · go_wp2_with (go_at_call 182; refine (small_any _ _).mono ?_; rintro e w' ⟨rfl, rfl⟩)
                go_ret
                exact ⟨ret_bool H1.out.symm, rfl⟩
        · have hke : k = s.size := by omega
          subst hke
          have hv : validB s.data.toList = true := by
            have := Hall.out
            rw [List.take_of_length_le (by simp)] at this
            simp [validB, this]; omega
          have Hv := Lib.hid hv
          clear hv
          go_wp2
          go_ret
          exact ⟨ret_bool Hv.out.symm, rfl⟩
    · go_enter Tryz.func93, Tryz.ntmps93
      go_wp2
      go_ret
      exact ⟨ret_bool (by simp [validB]; omega), rfl⟩
  · go_enter Tryz.func93, Tryz.ntmps93
    go_wp2
    go_ret
    exact ⟨ret_bool (by simp [validB]; omega), rfl⟩

end Go.Proofs.YtkogkokmcmallaaGreatDoor
namespace Go.Proofs.YtkogkokmcmallaaGreatDoor
set_option linter.all false
open Go.RowKit
theorem info_u8 : (Tryz.prog.info? 5).map (fun i => (i.zero, i.size, i.bytes)) = some (some (.int .u8 0), 1, 1) := by kernel_rfl
theorem info_int : (Tryz.prog.info? 3).map (fun i => (i.zero, i.size, i.bytes)) = some (some (.int .i64 0), 1, 8) := by kernel_rfl
/-- What has been made is new, and reads so. -/
def NewSeq (w : World) (l : List Value) (e : Ending) (w' : World) : Prop :=
  ∃ v', e = .returned v' ∧ ownV w' v' l ∧ Below w.heap.size w w' ∧ ∀ b, blk v' = some b → w.heap.size ≤ b ∧ b < w'.heap.size
/-- Behind an append onto an empty slice over a block of its own that has just been laid. -/
theorem newSeq_of_append {w w' : World} {o : Obj} {v' : Value} {l : List Value} (hv' : ownV w' v' l) (hk : Keeps (fun k => blk (.slice (some ⟨w.heap.size, 0, none⟩) 0 0) = some k) (w.alloc o) w')
    (hb : v' = .slice (some ⟨w.heap.size, 0, none⟩) 0 0 ∧ l = [] ∧ w' = w.alloc o ∨ blk v' = blk (.slice (some ⟨w.heap.size, 0, none⟩) 0 0) ∧ (blk (.slice (some ⟨w.heap.size, 0, none⟩) 0 0)).isSome ∨ blk v' = some (w.heap.size + 1)) :
    NewSeq w l (.returned v') w' := by
  refine ⟨v', rfl, hv', (((Keeps.refl (fun _ => False) w).alloc o).trans' hk fun i hi hi' => ?_).below (Nat.le_refl _) (fun _ _ h => h), fun b h => ⟨?_, hv'.lt b h⟩⟩
  · simp only [blk, Option.some.injEq] at hi'
    omega
  · rcases hb with ⟨rfl, _, _⟩ | ⟨h2, _⟩ | h2
    · simp only [blk, Option.some.injEq] at h; omega
    · rw [h2] at h; simp only [blk, Option.some.injEq] at h; omega
    · rw [h2] at h; simp only [Option.some.injEq] at h; omega

theorem clone_bytes (v : Value) (l : List Value) (w : World) (h : seqV w v l) (h1 : ∀ u ∈ l, u.oneCell' = true) (hl : l.length ≤ 1073741824) :
    Calls Tryz.prog 94 #[v] w (NewSeq w l) := by
  have hsrc := fun (w' : World) (h' : seqV w' v l) => src_of_seq (P := Tryz.prog) Tryz.underlying64 h' h1
  obtain ⟨a, n, c, rfl, hn, hc, ha, hh⟩ := id h
  obtain ⟨i0, hi, hz0, hz1, hz2⟩ := info_parts info_u8
  cases a with
  | none =>
    have hc0 := ha rfl
    subst hc0
    have hl0 : l = [] := List.eq_nil_of_length_eq_zero (by omega)
    subst hl0
    have hn0 : n = 0 := by simpa using hn
    subst hn0
    clear hn hc hh ha hsrc
    have heq := fun w => Lib.run_eql_slice_nil (P := Tryz.prog) w 64 _ none 0 0 0 0 Tryz.underlying64
    go_enter Tryz.func94, Tryz.ntmps94
    go_wp2
    go_ret
    exact ⟨_, rfl, ownV.nil _, Below.refl _ _, fun b hb => by cases hb⟩
  | some a =>
    clear hn hc hh ha
    have heq := fun w => Lib.run_eql_slice_nil (P := Tryz.prog) w 64 _ (some a) n c 0 0 Tryz.underlying64
    go_enter Tryz.func94, Tryz.ntmps94
    have hb0 : Keeps (fun _ => False) w (w.alloc (.cells #[] 5)) := (Keeps.refl _ _).alloc _
    have hown : ownV (w.alloc (.cells #[] 5)) (.slice (some ⟨w.heap.size, 0, none⟩) 0 0) [] := ⟨_, 0, 0, rfl, rfl, Nat.le_refl _, ⟨fun _ => rfl, fun b hb => by cases hb; simp⟩, .inl rfl⟩
    have hs1 := hsrc _ (h.keep hb0 (fun _ _ => id))
    clear hsrc h
    go_wp2_with (at_builtin; refine wpList_append_any rfl _ _ _ _ rfl Tryz.underlying64 hi hz0 hz1 rfl rfl rfl hown hs1 ?_ ?_ ?_)
    · simp [hz2]; omega
    · simp; omega
    intro v' w' hv' hk hb hnil
    go_wp2
    go_ret
    exact newSeq_of_append (by simpa using hv') hk hb
end Go.Proofs.YtkogkokmcmallaaGreatDoor
namespace Go.Proofs.YtkogkokmcmallaaGreatDoor
set_option linter.all false
open Go.RowKit

/-- The sentinel of a code lies in this package-level variable. -/
def gidx : Nat → Nat
  | 101 => 8
  | 102 => 9
  | 103 => 5
  | 104 => 4
  | 105 => 0
  | 106 => 1
  | 107 => 6
  | 108 => 10
  | 109 => 11
  | 110 => 12
  | 111 => 7
  | 112 => 2
  | 113 => 3
  | 114 => 13
  | 115 => 14
  | 116 => 15
  | 117 => 16
  | 118 => 17
  | _ => 18
/-- The error of a code (0: none), as a value. -/
def errV (ad : Nat → Addr) (c : Nat) : Value := if c = 0 then .nilIface else .iface 320 (.pointer (some (ad c)))
theorem errV_zero (ad : Nat → Addr) : errV ad 0 = .nilIface := rfl
theorem errV_pos (ad : Nat → Addr) {c : Nat} (h : c ≠ 0) : errV ad c = .iface 320 (.pointer (some (ad c))) := by simp [errV, h]

/-- The sentinels of these codes lie in memory, all below block B. -/
structure Errs (L : List Nat) (ad : Nat → Addr) (B : Nat) (w : World) : Prop where
  pos : ∀ c ∈ L, c ≠ 0
  cell : ∀ c ∈ L, w.cell? ⟨gidx c, 0, none⟩ = some (errV ad c)
  block : ∀ c ∈ L, ∃ cs E, w.heap[(ad c).block]? = some (.cells cs E (0, 0))
  inj : ∀ c ∈ L, ∀ d ∈ L, ad c = ad d → c = d
  lt : ∀ c ∈ L, gidx c < B ∧ (ad c).block < B
theorem Errs.below {L : List Nat} {ad : Nat → Addr} {B : Nat} {w w' : World} (h : Errs L ad B w) (k : Below B w w') : Errs L ad B w' where
  pos := h.pos
  cell c hc := (k.cell (p := ⟨gidx c, 0, none⟩) (h.lt c hc).1).trans (h.cell c hc)
  block c hc := by obtain ⟨cs, E, hb⟩ := h.block c hc; exact ⟨cs, E, (k.block _ (h.lt c hc).2).trans hb⟩
  inj := h.inj
  lt := h.lt

theorem Errs.mono {L : List Nat} {ad : Nat → Addr} {B B' : Nat} {w : World} (h : Errs L ad B w) (hB : B ≤ B') : Errs L ad B' w :=
  ⟨h.pos, h.cell, h.block, h.inj, fun c hc => ⟨Nat.lt_of_lt_of_le (h.lt c hc).1 hB, Nat.lt_of_lt_of_le (h.lt c hc).2 hB⟩⟩
theorem Errs.keep {L : List Nat} {ad : Nat → Addr} {B : Nat} {F : Nat → Prop} {w w' : World} (h : Errs L ad B w) (k : Keeps F w w') (hB : B ≤ w.heap.size) (hF : ∀ i, i < B → ¬ F i) : Errs L ad B w' := h.below (k.below hB hF)

theorem comp_err : (Tryz.prog.info? 320).map (·.comparable) = some true := by kernel_rfl
theorem size_err : (Tryz.prog.info? 337).map (·.size) = some 1 := by kernel_rfl
theorem info_err : (Tryz.prog.info? 30).map (fun i => (i.zero, i.size, i.bytes)) = some (some .nilIface, 1, 16) := by kernel_rfl

/-- '==' between two sentinels. -/
theorem run_eql_errs {L : List Nat} {ad : Nat → Addr} {B : Nat} {w : World} (h : Errs L ad B w) {c d : Nat} (hc : c ∈ L) (hd : d ∈ L) :
    (binOp .eql 30 (.iface 320 (.pointer (some (ad c)))) (.iface 320 (.pointer (some (ad d))))).run Tryz.prog w = .ok (.bool (c == d)) w := by
  obtain ⟨i, hi, hcomp⟩ := Option.map_eq_some_iff.1 comp_err
  obtain ⟨j, hj, hsz⟩ := Option.map_eq_some_iff.1 size_err
  by_cases e : c = d
  · subst e
    rw [run_eql_iface_ptr_same w (ad c) Tryz.underlying30 Tryz.underlying320 hi hcomp hj]
    simp
  · obtain ⟨ca, ta, ha⟩ := h.block c hc
    obtain ⟨cb, tb, hb⟩ := h.block d hd
    rw [run_eql_iface_ptr_other w Tryz.underlying30 Tryz.underlying320 hi hcomp hj (by omega) (fun q => e (h.inj c hc d hd q)) ha hb]
    simp [e]

theorem alike_any {L : List Nat} {ad : Nat → Addr} {B : Nat} {w : World} (h : Errs L ad B w) {c d : Nat} (hc : c ∈ L) (hd : d ∈ L) :
    Calls Tryz.prog 240 #[.iface 320 (.pointer (some (ad c))), .iface 320 (.pointer (some (ad d)))] w fun e w' => e = .returned (.bool (c == d)) ∧ w = w' := by
  have hr := run_eql_errs h hc hd
  clear h
  go_enter Tryz.func240, Tryz.ntmps240
  go_wp2
  go_ret
  exact ⟨rfl, rfl⟩

/-- All that cordwoodsee knows. -/
def allCodes : List Nat := [101, 102, 103, 104, 105, 106, 107, 108, 109, 110, 111, 112, 113, 114, 115, 116, 117, 118, 119]

def SentPost (ad : Nat → Addr) (w : World) (e : Ending) (w' : World) : Prop :=
  e = .returned (.slice (some ⟨w.heap.size, 0, none⟩) 19 19) ∧ w' = w.alloc (.cells (allCodes.map (errV ad)).toArray 30)
theorem sentinels_any {ad : Nat → Addr} {B : Nat} {w : World} (h : Errs allCodes ad B w) :
    Calls Tryz.prog 239 #[] w (SentPost ad w) := by
  have e1 := h.cell 101 (by decide)
  have e2 := h.cell 102 (by decide)
  have e3 := h.cell 103 (by decide)
  have e4 := h.cell 104 (by decide)
  have e5 := h.cell 105 (by decide)
  have e6 := h.cell 106 (by decide)
  have e7 := h.cell 107 (by decide)
  have e8 := h.cell 108 (by decide)
  have e9 := h.cell 109 (by decide)
  have e10 := h.cell 110 (by decide)
  have e11 := h.cell 111 (by decide)
  have e12 := h.cell 112 (by decide)
  have e13 := h.cell 113 (by decide)
  have e14 := h.cell 114 (by decide)
  have e15 := h.cell 115 (by decide)
  have e16 := h.cell 116 (by decide)
  have e17 := h.cell 117 (by decide)
  have e18 := h.cell 118 (by decide)
  have e19 := h.cell 119 (by decide)
  simp only [gidx] at e1 e2 e3 e4 e5 e6 e7 e8 e9 e10 e11 e12 e13 e14 e15 e16 e17 e18 e19
  clear h
  obtain ⟨i0, hi, hz0, hz1, hz2⟩ := info_parts info_err
  go_enter Tryz.func239, Tryz.ntmps239
  go_wp2_with (refine wpList_buildSeq rfl _ _ _ rfl Tryz.underlying276 hi hz0 hz1 (allCodes.map (errV ad)) rfl ?_ rfl (by decide) (by decide) ?_)
  · intro u hu
    obtain ⟨c, _, rfl⟩ := List.mem_map.1 hu
    unfold errV; split <;> rfl
  go_wp2
  go_ret
  exact ⟨rfl, rfl⟩
end Go.Proofs.YtkogkokmcmallaaGreatDoor
namespace Go.Proofs.YtkogkokmcmallaaGreatDoor
set_option linter.all false
open Go.RowKit

def IntNew (n : Int) (w : World) (e : Ending) (w' : World) : Prop := e = .returned (.int .i64 n) ∧ Below w.heap.size w w'
def BoolNew (b : Bool) (w : World) (e : Ending) (w' : World) : Prop := e = .returned (.bool b) ∧ Below w.heap.size w w'
def FaultNew (c : Int) (p : Bool) (q : Int) (w : World) (e : Ending) (w' : World) : Prop := e = .returned (.agg #[.int .i64 c, .bool p, .int .i64 q]) ∧ Below w.heap.size w w'

theorem sentinel_any {ad : Nat → Addr} {B : Nat} {w : World} (h : Errs allCodes ad B w) (hB : B ≤ w.heap.size) {c : Nat} (hc : c ∈ allCodes) :
    Calls Tryz.prog 203 #[.iface 320 (.pointer (some (ad c)))] w (IntNew c w) := by
  have hcr : 101 ≤ c ∧ c ≤ 119 := by simp only [allCodes, List.mem_cons, List.not_mem_nil, or_false] at hc; omega
  have hw1 : Errs allCodes ad B (w.alloc (.cells (allCodes.map (errV ad)).toArray 30)) := h.below ((Below.refl B w).alloc hB _)
  have hcell : ∀ k, k < 19 → (w.alloc (.cells (allCodes.map (errV ad)).toArray 30)).cell? ⟨w.heap.size, k, none⟩ = some (.iface 320 (.pointer (some (ad (101 + k))))) := by
    intro k hk
    refine cell_at (World.alloc_heap_new w _) ?_
    rw [List.getElem?_toArray, List.getElem?_map]
    have : allCodes[k]? = some (101 + k) := by
      rcases (by omega : k = 0 ∨ k = 1 ∨ k = 2 ∨ k = 3 ∨ k = 4 ∨ k = 5 ∨ k = 6 ∨ k = 7 ∨ k = 8 ∨ k = 9 ∨ k = 10 ∨ k = 11 ∨ k = 12 ∨ k = 13 ∨ k = 14 ∨ k = 15 ∨ k = 16 ∨ k = 17 ∨ k = 18) with e | e | e | e | e | e | e | e | e | e | e | e | e | e | e | e | e | e | e <;> (subst e; rfl)
    rw [this, Option.map_some, errV_pos ad (by omega)]
  have hbel : Below w.heap.size w (w.alloc (.cells (allCodes.map (errV ad)).toArray 30)) := (Below.refl _ w).alloc (Nat.le_refl _) _
  generalize hw' : w.alloc (.cells (allCodes.map (errV ad)).toArray 30) = W at *
  have Hw := Lib.hid hw'
  clear hw'
  have H := Lib.hid h
  clear h
  have Hcell := Lib.hid hcell
  clear hcell
  go_enter Tryz.func203, Tryz.ntmps203
  go_wp2_with (go_at_call 239; refine (sentinels_any H.out).mono ?_; rintro e w' ⟨rfl, rfl⟩; rw [Hw.out])
  go_loop [4] (fun i => ∃ k : Nat, 101 + k ≤ c ∧ i = .int .i64 k) (fun i => 19 - (intOf i).toNat)
  case atStart => exact ⟨0, by omega, rfl⟩
  case round =>
    obtain ⟨k, hk, rfl⟩ := hrel
    have hk19 : k < 19 := by omega
    have hck := Hcell.out k hk19
    have hkm : 101 + k ∈ allCodes := by
      simp only [allCodes, List.mem_cons, List.not_mem_nil, or_false]; omega
    by_cases he : c = 101 + k
    · have hb : (c == 101 + k) = true := by simp [he]
      have Hb := Lib.hid hb
      have He := Lib.hid he
      clear hb he
      go_wp2_with (go_at_call 240; refine (alike_any hw1 hc hkm).mono ?_; rintro e w' ⟨rfl, rfl⟩; rw [Hb.out])
      go_ret
      exact ⟨ret_int (by rw [He.out]; simp), hbel⟩
    · have hb : (c == 101 + k) = false := by simp [he]
      have Hb := Lib.hid hb
      have hlt : 101 + (k + 1) ≤ c := by omega
      clear hb he
      go_wp2_with (go_at_call 240; refine (alike_any hw1 hc hkm).mono ?_; rintro e w' ⟨rfl, rfl⟩; rw [Hb.out])
      go_round
      case rel => exact ⟨k + 1, hlt, by go_num⟩
      case measure => simp [intOf]; omega

theorem bare_any (c : Int) (w : World) : Calls Tryz.prog 104 #[.int .i64 c] w (FaultNew c false 0 w) := by
  go_enter Tryz.func104, Tryz.ntmps104
  go_wp2
  exact bodyPost_ret (v := .agg #[.int .i64 c, .bool false, .int .i64 0]) (by simp [results, Tryz.results104, go_sem]) rfl ⟨rfl, (Below.refl _ _).alloc (Nat.le_refl _) _⟩
theorem none_any (w : World) : Calls Tryz.prog 133 #[] w (FaultNew 0 false 0 w) := by
  go_enter Tryz.func133, Tryz.ntmps133
  go_wp2
  exact bodyPost_ret (v := .agg #[.int .i64 0, .bool false, .int .i64 0]) (by simp [results, Tryz.results133, go_sem]) rfl ⟨rfl, (Below.refl _ _).alloc (Nat.le_refl _) _⟩
theorem sameFault_any (c d : Int) (p q : Bool) (x y : Int) (w : World) : Calls Tryz.prog 126 #[.agg #[.int .i64 c, .bool p, .int .i64 x], .agg #[.int .i64 d, .bool q, .int .i64 y]] w (BoolNew (c == d && (p == q && x == y)) w) := by
  have hbel : ∀ o o', Below w.heap.size w ((w.alloc o).alloc o') := fun o o' => ((Below.refl _ _).alloc (Nat.le_refl _) _).alloc (by simp) _
  have Hb := Lib.hid hbel
  clear hbel
  cases hb : (c == d)
  · go_enter Tryz.func126, Tryz.ntmps126
    go_wp2
    go_ret
    exact ⟨rfl, Hb.out _ _⟩
  · cases hb2 : (p == q)
    · go_enter Tryz.func126, Tryz.ntmps126
      go_wp2
      go_ret
      exact ⟨rfl, Hb.out _ _⟩
    · go_enter Tryz.func126, Tryz.ntmps126
      go_wp2
      go_ret
      exact ⟨rfl, Hb.out _ _⟩

theorem agg_fault (w : World) : (isAgg 79).run Tryz.prog w = .ok true w := by kernel_rfl
theorem size_fault (vs : Array Value) (h : vs.size = 3) : (Tryz.prog.info? 79).map (·.size) = some vs.size := by rw [h]; kernel_rfl

/-- What an error is: its code, whether an At is around it, its place. -/
theorem fault_nil (w : World) : Calls Tryz.prog 127 #[.nilIface] w (FaultNew 0 false 0 w) := by
  go_enter Tryz.func127, Tryz.ntmps127
  go_wp2_with (first
    | (go_at_call 133; refine (none_any _).mono ?_; rintro e w' ⟨rfl, hb⟩; have hblk := (hb.block w.heap.size (by simp)).trans (World.alloc_heap_new w _); have H := Lib.hid hblk; have HB := Lib.hid hb; clear hblk hb)
    | (refine wpList_storeRow rfl _ _ _ rfl w.heap.size _ rfl rfl H.out (size_fault _ rfl) rfl (by simp [Value.oneCell']) ?_; intro w2 h2 k2 _; have H2 := Lib.hid h2; have K2 := Lib.hid k2; clear h2 k2))
  refine bodyPost_ret (results_row rfl rfl (agg_fault _) (size_fault _ rfl) H2.out) rfl ⟨rfl, ?_⟩
  exact (((Keeps.refl (fun _ => False) w).alloc _).trans' (Keeps.of_below HB.out (fun _ => False)) (fun _ _ h => h)).trans' K2.out (fun i hi h => by omega) |>.below (Nat.le_refl _) (fun _ _ h => h)
set_option maxRecDepth 100000 in
theorem fault_err {ad : Nat → Addr} {B : Nat} {w : World} (h : Errs allCodes ad B w) (hB : B ≤ w.heap.size) {c : Nat} (hc : c ∈ allCodes) :
    Calls Tryz.prog 127 #[.iface 320 (.pointer (some (ad c)))] w (FaultNew c false 0 w) := by
  have h1 : ∀ o, Errs allCodes ad B (w.alloc o) := fun o => h.below ((Below.refl B w).alloc hB _)
  have H1 := Lib.hid h1
  clear h1 h
  go_enter Tryz.func127, Tryz.ntmps127
  have hta : ∀ (v : Value) (w : World), (Instr.typeAssert (.iface 320 v) 30 185 true).run Tryz.prog w = .ok (.tuple #[.pointer none, .bool false]) w := fun _ _ => by kernel_rfl
  go_wp2_with (first
    | (go_at_call 203; refine (sentinel_any (H1.out _) (by simp; omega) hc).mono ?_; rintro e w1 ⟨rfl, hb⟩; have hblk := (hb.block w.heap.size (by simp)).trans (World.alloc_heap_new w _); have H := Lib.hid hblk; have HB := Lib.hid hb; clear hblk hb)
    | (go_at_call 104; refine (bare_any _ _).mono ?_; rintro e w3 ⟨rfl, hb⟩; have hblk := (hb.block w.heap.size (lt_of_block H.out)).trans H.out; have H3 := Lib.hid hblk; have HB3 := Lib.hid hb; clear hblk hb)
    | (refine wpList_storeRow rfl _ _ _ rfl w.heap.size _ rfl rfl H3.out (size_fault _ rfl) rfl (by simp [Value.oneCell']) ?_; intro w2 h2 k2 _; have H2 := Lib.hid h2; have K2 := Lib.hid k2; clear h2 k2))
  refine bodyPost_ret (results_row rfl rfl (agg_fault _) (size_fault _ rfl) H2.out) rfl ⟨rfl, ?_⟩
  exact ((((Keeps.refl (fun _ => False) w).alloc _).trans' (Keeps.of_below HB.out (fun _ => False)) (fun _ _ h => h)).trans' (Keeps.of_below HB3.out (fun _ => False)) (fun _ _ h => h)).trans' K2.out (fun i hi h => by omega) |>.below (Nat.le_refl _) (fun _ _ h => h)

theorem below2 {w w1 w2 : World} {o : Obj} (hb : Below (w.alloc o).drew.heap.size (w.alloc o).drew w1) (hb2 : Below w1.heap.size w1 w2) : Below w.heap.size w w2 :=
  (((Below.refl _ w).alloc (Nat.le_refl _) o).drew.trans (hb.mono (by simp))).trans (hb2.mono (by have := hb.size; simp at this; omega))
theorem same_nil (c : Int) (w : World) : Calls Tryz.prog 37 #[.nilIface, .agg #[.int .i64 c, .bool false, .int .i64 0]] w (BoolNew (0 == c) w) := by
  go_enter Tryz.func37, Tryz.ntmps37
  go_wp2_with fail
  go_region_held3 (fun w' => w'.cell? ⟨w.heap.size, 0, none⟩ = some (.int .i64 c) ∧ w'.cell? ⟨w.heap.size, 1, none⟩ = some (.bool false) ∧ w'.cell? ⟨w.heap.size, 2, none⟩ = some (.int .i64 0)) (go_keep)
    (first | (go_at_call 127; refine (fault_nil _).mono ?_; rintro e w' ⟨rfl, hb⟩; have k0 := hb.cell (p := ⟨w.heap.size, 0, none⟩) (by simp); have k1 := hb.cell (p := ⟨w.heap.size, 1, none⟩) (by simp); have k2 := hb.cell (p := ⟨w.heap.size, 2, none⟩) (by simp)) | (go_at_call 126; refine (sameFault_any _ _ _ _ _ _ _).mono ?_; rintro e w2 ⟨rfl, hb2⟩; have k0 := hb2.cell (p := ⟨w.heap.size, 0, none⟩) (by have := hb.size; simp at this; show w.heap.size < w'.heap.size; omega); have k1 := hb2.cell (p := ⟨w.heap.size, 1, none⟩) (by have := hb.size; simp at this; show w.heap.size < w'.heap.size; omega); have k2 := hb2.cell (p := ⟨w.heap.size, 2, none⟩) (by have := hb.size; simp at this; show w.heap.size < w'.heap.size; omega)))
  all_goals
    have HB := Lib.hid (below2 hb hb2)
    clear hb hb2
    go_wp2
    go_ret
    exact ⟨ret_bool (by simp), HB.out⟩
theorem same_err {ad : Nat → Addr} {B : Nat} {w : World} (h : Errs allCodes ad B w) (hB : B ≤ w.heap.size) {d : Nat} (hd : d ∈ allCodes) (c : Int) :
    Calls Tryz.prog 37 #[.iface 320 (.pointer (some (ad d))), .agg #[.int .i64 c, .bool false, .int .i64 0]] w (BoolNew ((d : Int) == c) w) := by
  have h1 : ∀ o, Errs allCodes ad B (w.alloc o).drew := fun o => h.below ((Below.refl B w).alloc hB _).drew
  have H1 := Lib.hid h1
  clear h1 h
  go_enter Tryz.func37, Tryz.ntmps37
  go_wp2_with fail
  go_region_held3 (fun w' => w'.cell? ⟨w.heap.size, 0, none⟩ = some (.int .i64 c) ∧ w'.cell? ⟨w.heap.size, 1, none⟩ = some (.bool false) ∧ w'.cell? ⟨w.heap.size, 2, none⟩ = some (.int .i64 0)) (go_keep)
    (first | (go_at_call 127; refine (fault_err (H1.out _) (by simp; omega) hd).mono ?_; rintro e w' ⟨rfl, hb⟩; have k0 := hb.cell (p := ⟨w.heap.size, 0, none⟩) (by simp); have k1 := hb.cell (p := ⟨w.heap.size, 1, none⟩) (by simp); have k2 := hb.cell (p := ⟨w.heap.size, 2, none⟩) (by simp)) | (go_at_call 126; refine (sameFault_any _ _ _ _ _ _ _).mono ?_; rintro e w2 ⟨rfl, hb2⟩; have k0 := hb2.cell (p := ⟨w.heap.size, 0, none⟩) (by have := hb.size; simp at this; show w.heap.size < w'.heap.size; omega); have k1 := hb2.cell (p := ⟨w.heap.size, 1, none⟩) (by have := hb.size; simp at this; show w.heap.size < w'.heap.size; omega); have k2 := hb2.cell (p := ⟨w.heap.size, 2, none⟩) (by have := hb.size; simp at this; show w.heap.size < w'.heap.size; omega)))
  all_goals
    have HB := Lib.hid (below2 hb hb2)
    clear hb hb2
    go_wp2
    go_ret
    exact ⟨ret_bool (by simp), HB.out⟩

/-- 'Is': an error is this one, with nothing around it. -/
theorem is_any {ad : Nat → Addr} {B : Nat} {w : World} (h : Errs allCodes ad B w) (hB : B ≤ w.heap.size) {d : Nat} (hd : d = 0 ∨ d ∈ allCodes) (c : Int) :
    Calls Tryz.prog 23 #[errV ad d, .int .i64 c] w (BoolNew ((d : Int) == c) w) := by
  rcases hd with rfl | hd
  · rw [errV_zero]
    clear h
    go_enter Tryz.func23, Tryz.ntmps23
    go_wp2_with (first
      | (go_at_call 104; refine (bare_any _ _).mono ?_; rintro e w1 ⟨rfl, hb1⟩; have HB1 := Lib.hid hb1; clear hb1)
      | (go_at_call 37; refine (same_nil _ _).mono ?_; rintro e w2 ⟨rfl, hb2⟩; have HB2 := Lib.hid hb2; clear hb2))
    go_ret
    exact ⟨rfl, HB1.out.trans (HB2.out.mono HB1.out.size)⟩
  · rw [errV_pos ad (h.pos d hd)]
    have H := Lib.hid h
    clear h
    go_enter Tryz.func23, Tryz.ntmps23
    go_wp2_with (first
      | (go_at_call 104; refine (bare_any _ _).mono ?_; rintro e w1 ⟨rfl, hb1⟩; have HB1 := Lib.hid hb1; clear hb1)
      | (go_at_call 37; refine (same_err (H.out.below (HB1.out.mono hB)) (Nat.le_trans hB HB1.out.size) hd _).mono ?_; rintro e w2 ⟨rfl, hb2⟩; have HB2 := Lib.hid hb2; clear hb2))
    go_ret
    exact ⟨rfl, HB1.out.trans (HB2.out.mono HB1.out.size)⟩
end Go.Proofs.YtkogkokmcmallaaGreatDoor
namespace Go.Proofs.YtkogkokmcmallaaGreatDoor
set_option linter.all false
open Go.RowKit
def bytesL (l : List UInt8) : List Value := l.map u8v
def intsL (l : List Int) : List Value := l.map (Value.int .i64)
theorem bytesL_one (l : List UInt8) : ∀ u ∈ bytesL l, u.oneCell' = true := by
  intro u hu; obtain ⟨x, _, rfl⟩ := List.mem_map.1 hu; rfl
theorem intsL_one (l : List Int) : ∀ u ∈ intsL l, u.oneCell' = true := by
  intro u hu; obtain ⟨x, _, rfl⟩ := List.mem_map.1 hu; rfl

theorem aput_same {κ α : Type} [DecidableEq κ] {l : List (κ × α)} {k : κ} {v : α} (h : aget l k = some v) : aput l k v = l := by
  induction l with
  | nil => simp [aget] at h
  | cons x l ih =>
    obtain ⟨k', v'⟩ := x
    simp only [aget] at h
    simp only [aput]
    split
    · rename_i e; rw [if_pos e] at h; cases h; rw [e]
    · rename_i e; rw [if_neg e] at h; rw [ih h]
end Go.Proofs.YtkogkokmcmallaaGreatDoor
