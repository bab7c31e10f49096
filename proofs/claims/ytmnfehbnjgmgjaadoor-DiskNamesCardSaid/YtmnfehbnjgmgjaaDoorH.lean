/- Chunks of memory that lie apart from one another (HP), what of them holds in a world (Mem), how they are read, turned, added. -/
import Derived.Test.YtmnfehbnjgmgjaaDoorV
namespace Go.Proofs.YtmnfehbnjgmgjaaDoor
set_option linter.all false
open Go.RowKit

/-- A chunk: what holds of the blocks F in a world; it hangs on these blocks alone. -/
structure HP where
  ok : (Nat → Prop) → World → Prop
  loc : ∀ {F : Nat → Prop} {w w' : World}, ok F w → (∀ b, F b → w'.heap[b]? = w.heap[b]?) → ok F w'
  lt : ∀ {F : Nat → Prop} {w : World} {b : Nat}, ok F w → F b → b < w.heap.size

/-- The chunks hold, apart from one another and from X. -/
def satX (w : World) : List HP → (Nat → Prop) → Prop
  | [], _ => True
  | C :: L, X => ∃ F, C.ok F w ∧ (∀ b, F b → ¬ X b) ∧ satX w L (fun b => X b ∨ F b)
theorem satX.less {w : World} : ∀ {L : List HP} {X X' : Nat → Prop}, (∀ b, X' b → X b) → satX w L X → satX w L X'
  | [], _, _, _, _ => trivial
  | _ :: _, _, _, hX, ⟨F, h1, h2, h3⟩ => ⟨F, h1, fun b hb hx => h2 b hb (hX b hx), satX.less (fun b hb => hb.imp (hX b) id) h3⟩
theorem satX.keep {w w' : World} : ∀ {L : List HP} {X : Nat → Prop}, (∀ b, b < w.heap.size → ¬ X b → w'.heap[b]? = w.heap[b]?) → satX w L X → satX w' L X
  | [], _, _, _ => trivial
  | C :: _, _, hk, ⟨F, h1, h2, h3⟩ => ⟨F, C.loc h1 (fun b hb => hk b (C.lt h1 hb) (h2 b hb)), h2, satX.keep (fun b hb hx => hk b hb fun h => hx (.inl h)) h3⟩
/-- The same; and what is new is forbidden to them. -/
theorem satX.keepNew {w w' : World} : ∀ {L : List HP} {X : Nat → Prop}, (∀ b, b < w.heap.size → ¬ X b → w'.heap[b]? = w.heap[b]?) → satX w L X → satX w' L (fun b => X b ∨ w.heap.size ≤ b)
  | [], _, _, _ => trivial
  | C :: _, _, hk, ⟨F, h1, h2, h3⟩ => ⟨F, C.loc h1 (fun b hb => hk b (C.lt h1 hb) (h2 b hb)), fun b hb hx => hx.elim (h2 b hb) (fun hn => absurd (C.lt h1 hb) (Nat.not_lt.2 hn)),
      satX.less (fun b hb => hb.elim (fun hb => hb.elim (fun h => .inl (.inl h)) .inr) fun h => .inl (.inr h)) (satX.keepNew (fun b hb hx => hk b hb fun h => hx (.inl h)) h3)⟩
theorem satX.get {w : World} {C : HP} : ∀ {L : List HP} {X : Nat → Prop} {i : Nat}, L[i]? = some C → satX w L X → ∃ F, C.ok F w ∧ (∀ b, F b → ¬ X b) ∧ satX w (L.eraseIdx i) (fun b => X b ∨ F b)
  | [], _, _, h, _ => by simp at h
  | D :: L, X, 0, h, ⟨F, h1, h2, h3⟩ => by
    obtain rfl : D = C := by simpa using h
    exact ⟨F, h1, h2, h3⟩
  | D :: L, X, i + 1, h, ⟨F, h1, h2, h3⟩ => by
    obtain ⟨G, g1, g2, g3⟩ := satX.get (i := i) (by simpa using h) h3
    exact ⟨G, g1, fun b hb hx => g2 b hb (.inl hx), F, h1, fun b hb hx => hx.elim (h2 b hb) fun hg => g2 b hg (.inr hb), satX.less (fun b hb => hb.elim (fun hb => hb.elim (fun h => .inl (.inl h)) .inr) fun hb => .inl (.inr hb)) g3⟩
theorem satX.put {w : World} {C : HP} : ∀ {L : List HP} {X F : Nat → Prop} {i : Nat}, i < L.length → C.ok F w → (∀ b, F b → ¬ X b) → satX w (L.eraseIdx i) (fun b => X b ∨ F b) → satX w (L.set i C) X
  | [], _, _, _, h, _, _, _ => by simp at h
  | D :: L, X, F, 0, _, h1, h2, h3 => ⟨F, h1, h2, h3⟩
  | D :: L, X, F, i + 1, h, h1, h2, h3 => by
    obtain ⟨G, g1, g2, g3⟩ := h3
    refine ⟨G, g1, fun b hb hx => g2 b hb (.inl hx), satX.put (F := F) (by simpa using h) h1 (fun b hb hx => hx.elim (h2 b hb) fun hg => g2 b hg (.inr hb)) ?_⟩
    exact satX.less (fun b hb => hb.elim (fun hb => hb.elim (fun h => .inl (.inl h)) .inr) fun hb => .inl (.inr hb)) g3
theorem satX.drop {w : World} : ∀ {L : List HP} {X : Nat → Prop} (i : Nat), satX w L X → satX w (L.eraseIdx i) X
  | [], _, _, _ => trivial
  | _ :: _, _, 0, ⟨_, _, _, h3⟩ => satX.less (fun _ h => .inl h) h3
  | _ :: _, _, i + 1, ⟨F, h1, h2, h3⟩ => ⟨F, h1, h2, satX.drop i h3⟩
theorem satX.append {w : World} : ∀ {L M : List HP} {X : Nat → Prop}, satX w (L ++ M) X → satX w M X
  | [], _, _, h => h
  | _ :: L, _, _, ⟨_, _, _, h3⟩ => satX.less (fun _ h => .inl h) (satX.append (L := L) h3)

/-- Since the ground g nothing of it has turned; the chunks hold, above it. -/
structure Mem (g w : World) (L : List HP) : Prop where
  os : w.os = g.os
  tape : w.tape = g.tape
  output : w.output = g.output
  size : g.heap.size ≤ w.heap.size
  old : ∀ b, b < g.heap.size → w.heap[b]? = g.heap[b]?
  sat : satX w L fun b => b < g.heap.size
section
variable {g w w' : World} {L : List HP} {C C' : HP} {i : Nat}
theorem Mem.start (g : World) : Mem g g [] := ⟨rfl, rfl, rfl, Nat.le_refl _, fun _ _ => rfl, trivial⟩
theorem Mem.below0 (h : Mem g w L) : Below g.heap.size g w := ⟨h.os, h.tape, h.output, h.size, h.old⟩
theorem Mem.read (h : Mem g w L) (hi : L[i]? = some C) : ∃ F, C.ok F w := let ⟨F, h1, _⟩ := h.sat.get hi; ⟨F, h1⟩
/-- A chunk has turned. -/
theorem Mem.turn (h : Mem g w L) (hi : L[i]? = some C) : ∃ F, C.ok F w ∧ ∀ (w' : World) (C' : HP) (F' : Nat → Prop), C'.ok F' w' → (∀ b, F' b → F b ∨ w.heap.size ≤ b) → Keeps F w w' → Mem g w' (L.set i C') := by
  obtain ⟨F, h1, h2, h3⟩ := h.sat.get hi
  refine ⟨F, h1, fun w' C' F' g1 g2 k => ⟨k.os.trans h.os, k.tape.trans h.tape, k.output.trans h.output, Nat.le_trans h.size k.size, fun b hb => (k.block b (Nat.lt_of_lt_of_le hb h.size) fun hf => h2 b hf hb).trans (h.old b hb), ?_⟩⟩
  have hlt : i < L.length := (List.getElem?_eq_some_iff.1 hi).1
  refine satX.put (F := F') hlt g1 (fun b hf hb => (g2 b hf).elim (fun hf => h2 b hf hb) fun hn => by have := h.size; omega) ?_
  refine satX.less ?_ (satX.keepNew (w' := w') (fun b hb hx => k.block b hb fun hf => hx (.inr hf)) h3)
  exact fun b hb => hb.elim (fun h => .inl (.inl h)) fun hb => (g2 b hb).elim (fun h => .inl (.inr h)) .inr
theorem Mem.keeps (h : Mem g w L) (k : Keeps (fun _ => False) w w') : Mem g w' L :=
  ⟨k.os.trans h.os, k.tape.trans h.tape, k.output.trans h.output, Nat.le_trans h.size k.size, fun b hb => (k.block b (Nat.lt_of_lt_of_le hb h.size) id).trans (h.old b hb), h.sat.keep fun b hb _ => k.block b hb id⟩
theorem Mem.below (h : Mem g w L) (k : Below w.heap.size w w') : Mem g w' L := h.keeps (Keeps.of_below k _)
theorem Mem.drew (h : Mem g w L) : Mem g w.drew L := h.keeps (Keeps.refl _ _).drew
/-- A new chunk. -/
theorem Mem.add (h : Mem g w L) {F' : Nat → Prop} (hC : C'.ok F' w') (hF : ∀ b, F' b → w.heap.size ≤ b) (k : Keeps (fun _ => False) w w') : Mem g w' (C' :: L) :=
  ⟨k.os.trans h.os, k.tape.trans h.tape, k.output.trans h.output, Nat.le_trans h.size k.size, fun b hb => (k.block b (Nat.lt_of_lt_of_le hb h.size) id).trans (h.old b hb), F', hC, fun b hf hb => by have := hF b hf; have := h.size; omega,
    satX.less (fun b hb => hb.imp id (hF b)) (h.sat.keepNew (w' := w') fun b hb _ => k.block b hb id)⟩
theorem Mem.pick (h : Mem g w L) (i : Nat) (hi : L[i]? = some C) : Mem g w (C :: L.eraseIdx i) :=
  ⟨h.os, h.tape, h.output, h.size, h.old, let ⟨F, h1, h2, h3⟩ := h.sat.get hi; ⟨F, h1, h2, h3⟩⟩
theorem Mem.drop (h : Mem g w L) (i : Nat) : Mem g w (L.eraseIdx i) := ⟨h.os, h.tape, h.output, h.size, h.old, h.sat.drop i⟩
theorem Mem.tail (h : Mem g w (C :: L)) : Mem g w L := h.drop 0
theorem Mem.nil (h : Mem g w L) : Mem g w [] := ⟨h.os, h.tape, h.output, h.size, h.old, trivial⟩
theorem satX.suffix {w : World} : ∀ {L : List HP} {X : Nat → Prop} (k : Nat), satX w L X → satX w (L.drop k) X
  | _, _, 0, h => h
  | [], _, _ + 1, _ => trivial
  | _ :: _, _, k + 1, ⟨_, _, _, h3⟩ => satX.less (fun _ h => .inl h) (satX.suffix k h3)
/-- Behind the first k chunks. -/
theorem Mem.suffix {M : List HP} (h : Mem g w L) (k : Nat) (hk : L.drop k = M) : Mem g w M := hk ▸ ⟨h.os, h.tape, h.output, h.size, h.old, h.sat.suffix k⟩
theorem Mem.cellOld (h : Mem g w L) {a : Addr} {v : Value} (hc : g.cell? a = some v) : w.cell? a = some v := by
  have hb : a.block < g.heap.size := World.block_lt_of_cell? g a hc
  have : w.cell? a = g.cell? a := by simp only [World.cell?, h.old a.block hb]
  rw [this]; exact hc
end

/-! ### what a list of chunks says of whatever world it holds in -/
def Ens (g : World) (L : List HP) (p : World → Prop) : Prop := ∀ w, Mem g w L → p w
section
variable {g w : World} {L : List HP} {p q : World → Prop} {C : HP}
theorem Ens.of (i : Nat) (hi : L[i]? = some C) (hC : ∀ F w, C.ok F w → p w) : Ens g L p := fun _ h => let ⟨F, h1⟩ := h.read hi; hC F _ h1
theorem Ens.imp (h : Ens g L p) (hq : ∀ w, p w → q w) : Ens g L q := fun w hs => hq w (h w hs)
theorem Ens.cons (h : Ens g L p) : Ens g (C :: L) p := fun w hs => h w hs.tail
end

/-! ### kinds of chunks -/
/-- A block of cells. -/
def cells (b : Nat) (cs : List Value) (T : TypeId) : HP where
  ok F w := w.heap[b]? = some (.cells cs.toArray T (0, 0)) ∧ ∀ x, F x ↔ x = b
  loc := fun ⟨h, hF⟩ k => ⟨(k b ((hF b).2 rfl)).trans h, hF⟩
  lt := fun ⟨h, hF⟩ hb => by rw [(hF _).1 hb]; exact lt_of_block h
theorem lt_keep {w w' : World} {b : Nat} (h : b < w.heap.size) (k : w'.heap[b]? = w.heap[b]?) : b < w'.heap.size := by
  rw [Array.getElem?_eq_getElem h] at k
  exact (Array.getElem?_eq_some_iff.1 k).1
/-- A slice of one's own. -/
def own (v : Value) (l : List Value) : HP where
  ok F w := ownV w v l ∧ ∀ x, F x ↔ blk v = some x
  loc := fun {F w w'} ⟨⟨a, n, c, hv, hn, hc, ha, h⟩, hF⟩ k => by
    subst hv
    have hk : ∀ b, blk (.slice a n c) = some b → w'.heap[b]? = w.heap[b]? := fun b hb => k b ((hF b).2 hb)
    refine ⟨⟨a, n, c, rfl, hn, hc, ⟨ha.1, fun b hb => lt_keep (ha.2 b hb) (hk b hb)⟩, ?_⟩, hF⟩
    rcases h with h | ⟨b, off, cs, E, rfl, hb, r⟩
    · exact .inl h
    · exact .inr ⟨b, off, cs, E, rfl, (hk b rfl).trans hb, r⟩
  lt := fun ⟨h, hF⟩ hb => h.lt _ ((hF _).1 hb)
theorem seqV.heap {w w' : World} {v : Value} {l : List Value} (h : seqV w v l) (k : ∀ b, blk v = some b → w'.heap[b]? = w.heap[b]?) : seqV w' v l := by
  obtain ⟨a, n, c, rfl, hn, hc, ha, h⟩ := h
  refine ⟨a, n, c, rfl, hn, hc, ha, ?_⟩
  rcases h with h | ⟨b, off, cs, E, fz, rfl, hb, r⟩
  · exact .inl h
  · exact .inr ⟨b, off, cs, E, fz, rfl, (k b rfl).trans hb, r⟩
/-- A slice that came in: it reads so, and lies below. -/
def Came (g : World) (v : Value) (l : List Value) : Prop := seqV g v l ∧ ∀ b, blk v = some b → b < g.heap.size
/-- What the chunks say: this value reads as this list, and lies in memory. -/
theorem seqV.stay {w w' : World} {v : Value} {l : List Value} (h : seqV w v l) (k : ∀ b, b < w.heap.size → w'.heap[b]? = w.heap[b]?) : seqV w' v l := by
  obtain ⟨a, n, c, rfl, hn, hc, ha, h⟩ := h
  refine ⟨a, n, c, rfl, hn, hc, ha, ?_⟩
  rcases h with h | ⟨b, off, cs, E, fz, rfl, hb, r⟩
  · exact .inl h
  · exact .inr ⟨b, off, cs, E, fz, rfl, (k b (lt_of_block hb)).trans hb, r⟩
def Rd (g : World) (L : List HP) (v : Value) (l : List Value) : Prop := Ens g L fun w => seqV w v l
theorem Came.rd {g : World} {v : Value} {l : List Value} (h : Came g v l) (L : List HP) : Rd g L v l := fun _ hs => h.1.stay hs.old
theorem Rd.own {g : World} {L : List HP} {v : Value} {l : List Value} (i : Nat) (hi : L[i]? = some (own v l)) : Rd g L v l := Ens.of i hi fun _ _ h => h.1.seq
theorem Rd.cons {g : World} {L : List HP} {C : HP} {v : Value} {l : List Value} (h : Rd g L v l) : Rd g (C :: L) v l := fun w hs => h w hs.tail
theorem Rd.nil {g : World} {L : List HP} : Rd g L (.slice none 0 0) [] := fun w _ => seqV.nil w
theorem Rd.seq {g w : World} {L : List HP} {v : Value} {l : List Value} (h : Rd g L v l) (hs : Mem g w L) : seqV w v l := h w hs
end Go.Proofs.YtmnfehbnjgmgjaaDoor
