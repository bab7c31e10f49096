/- Words and laws of my own, over any program: what of the heap stays (Keeps), a slice that reads as a list (zEs), one that may be written (ownV), the walk's step from a run's equation. Laws of the operations on memory, over any program: append onto a slice of one's own from whatever reads as a list; maps by their entries in order. Maps by their entries in order, over any program: what a map holds ('MapAt'), look-up, store, delete, length, and the plain laws of association lists. The leaves: small functions that only reckon; slices.Clone. slices.Clone at []byte and []int. The errors: the sentinels in memory; what cordwoodsee says of them. cordwoodsee: what an error is, as plain data. Bytes, numbers as values. A walk by registers, over any program: the frame as a function from slots to values (Env), the code's and a region's laws in that form, a region that draws its order. Chunks of memory that lie apart from one another (HP), what of them holds in a world (Mem), how they are read, turned, added. The operations' runs, over any program: what each yields, by what its operands are. The operations on memory, by chunks; calls. Errors in the walk by registers: what is known of the sentinels at the ground; tests of errors. Slicing; chunks put together (star, ex), families of chunks under keys (famC). make of a slice; ranges over maps: the map and its iterator as one chunk; what is left of it. Ranges over maps: the map and its iterator as one chunk; what is left of it; what it told last. Slices of structs: rows of k cells each; append of one struct, literals of one, reading of one. Structs within a block; results of any kind; type assertions on errors. Slices of structs: many rows appended; rows that can be read. -/
import Derived.WalkKit
import Derived.Lib.Hide
import Derived.Deep.QuietTactic
import Derived.BigQuiet
import Derived.RangeFuncRecord
import Derived.Deep.AppendSrc
import Derived.Great.BuildSlice
import Derived.MapKept
import Derived.Maps.OwnSet
import Derived.Test.YthejaanobeonnaaGreatDoorProg
import Derived.WalkSpells
import Derived.LaidEql
import Derived.Deep.RegionHeld3
import Derived.Deep.RegionWith
import Derived.OrdersHeld
import Derived.Lib.SlBytesConst
import Derived.Scope
import Derived.Maps.RangeRun
import Derived.Laws.MakeOwn
import Derived.Deep.MidRow
import Derived.Laws.CopyRow
set_option linter.all false
namespace Go.Proofs.YthejaanobeonnaaGreatDoor
def EN (P : Program) (f : FuncId) : Prop := ∀ (args : Array Value) (w : World), (callFunc f args).run P w = .ok (.enter f args) w
theorem zzs {α : Type _} (a : α) (bs : List α) (n : Nat) (b : α) : (a :: bs).set (n + 1) b = a :: bs.set n b := rfl
theorem zzz {α : Type _} (a : α) (bs : List α) (b : α) : (a :: bs).set 0 b = b :: bs := rfl
section
def uz2 := @Tryz.underlying2
def uz3 := @Tryz.underlying3
def uz4 := @Tryz.underlying4
def uz5 := @Tryz.underlying5
def uz9 := @Tryz.underlying9
def zC6 := @Tryz.underlying22
def uz25 := @Tryz.underlying25
def zCq := @Tryz.underlying27
def uz30 := @Tryz.underlying30
def uz32 := @Tryz.underlying32
def uz33 := @Tryz.underlying33
def zE := @Tryz.underlying36
def zD := @Tryz.underlying37
def zCp := @Tryz.underlying39
def uz42 := @Tryz.underlying42
def uz46 := @Tryz.underlying46
def uz47 := @Tryz.underlying47
def uz54 := @Tryz.underlying54
def uz62 := @Tryz.underlying62
def uz64 := @Tryz.underlying64
def zG2 := @Tryz.underlying66
def uz74 := @Tryz.underlying74
def uz85 := @Tryz.underlying85
def uz86 := @Tryz.underlying86
def zG1 := @Tryz.underlying88
def uz89 := @Tryz.underlying89
def uz90 := @Tryz.underlying90
def uz92 := @Tryz.underlying92
def zDg := @Tryz.underlying103
def zDt := @Tryz.underlying104
def zDf := @Tryz.underlying106
def zEm := @Tryz.underlying109
def uz112 := @Tryz.underlying112
def uz114 := @Tryz.underlying114
def zE1 := @Tryz.underlying121
def uz122 := @Tryz.underlying122
def zCm := @Tryz.underlying126
def uz128 := @Tryz.underlying128
def uz129 := @Tryz.underlying129
def uz131 := @Tryz.underlying131
def uz141 := @Tryz.underlying141
def uz146 := @Tryz.underlying146
def zG3 := @Tryz.underlying148
def uz150 := @Tryz.underlying150
def zFt := @Tryz.underlying154
def uz162 := @Tryz.underlying162
def uz173 := @Tryz.underlying173
def zCg := @Tryz.underlying196
def uz209 := @Tryz.underlying209
def uz226 := @Tryz.underlying226
def zDc := @Tryz.underlying242
def uz254 := @Tryz.underlying254
def uz260 := @Tryz.underlying260
def uz278 := @Tryz.underlying278
def uz280 := @Tryz.underlying280
def uz286 := @Tryz.underlying286
def uz303 := @Tryz.underlying303
open Go.RowKit
structure Keeps (F : Nat → Prop) (w w' : World) : Prop where
  os : w'.os = w.os
  tape : w'.tape = w.tape
  output : w'.output = w.output
  size : w.heap.size ≤ w'.heap.size
  block : ∀ k, k < w.heap.size → ¬ F k → w'.heap[k]? = w.heap[k]?
theorem Keeps.refl (F : Nat → Prop) (w : World) : Keeps F w w := ⟨rfl, rfl, rfl, Nat.le_refl _, fun _ _ _ => rfl⟩
theorem Keeps.trans' {F G : Nat → Prop} {a b c : World} (h : Keeps F a b) (k : Keeps G b c) (hG : ∀ i, i < a.heap.size → G i → F i) : Keeps F a c :=
  ⟨k.os.trans h.os, k.tape.trans h.tape, k.output.trans h.output, Nat.le_trans h.size k.size,
    fun i hi hf => (k.block i (Nat.lt_of_lt_of_le hi h.size) (fun g => hf (hG i hi g))).trans (h.block i hi hf)⟩
theorem Keeps.trans {F : Nat → Prop} {a b c : World} (h : Keeps F a b) (k : Keeps F b c) : Keeps F a c := h.trans' k fun _ _ g => g
theorem Keeps.mono {F G : Nat → Prop} {a b : World} (h : Keeps F a b) (hG : ∀ i, i < a.heap.size → F i → G i) : Keeps G a b :=
  ⟨h.os, h.tape, h.output, h.size, fun i hi hg => h.block i hi fun f => hg (hG i hi f)⟩
theorem Keeps.drew {F : Nat → Prop} {a b : World} (h : Keeps F a b) : Keeps F a b.drew := ⟨h.os, h.tape, h.output, h.size, h.block⟩
theorem Keeps.alloc {F : Nat → Prop} {a b : World} (h : Keeps F a b) (o : Obj) : Keeps F a (b.alloc o) :=
  ⟨h.os, h.tape, h.output, by have := h.size; simp; omega, fun i hi hf => (Below.heap_alloc _ _ _ (Nat.lt_of_lt_of_le hi h.size)).trans (h.block i hi hf)⟩
theorem Keeps.setCell {F : Nat → Prop} {a b : World} (h : Keeps F a b) (p : Addr) (v : Value) (hp : p.block < a.heap.size → F p.block) : Keeps F a (b.setCell p v) :=
  ⟨h.os, h.tape, h.output, by have := h.size; simpa using this, fun i hi hf => (Below.heap_setCell _ _ _ _ (fun e => hf (by rw [e] at hi ⊢; exact hp hi))).trans (h.block i hi hf)⟩
theorem Keeps.of_below {w w' : World} (h : Below w.heap.size w w') (F : Nat → Prop) : Keeps F w w' :=
  ⟨h.os, h.tape, h.output, h.size, fun i hi _ => h.block i hi⟩
theorem Keeps.below {B : Nat} {F : Nat → Prop} {w w' : World} (h : Keeps F w w') (hB : B ≤ w.heap.size) (hF : ∀ i, i < B → ¬ F i) : Below B w w' :=
  ⟨h.os, h.tape, h.output, h.size, fun i hi => h.block i (Nat.lt_of_lt_of_le hi hB) (hF i hi)⟩
theorem Keeps.get {F : Nat → Prop} {w w' : World} (h : Keeps F w w') {k : Nat} {o : Obj} (hk : w.heap[k]? = some o) (hF : ¬ F k) : w'.heap[k]? = some o :=
  (h.block k (lt_of_block hk) hF).trans hk
theorem Keeps.drewN {F : Nat → Prop} {a b : World} (h : Keeps F a b) (n : Nat) : Keeps F a (b.drewN n) := ⟨h.os, h.tape, h.output, h.size, h.block⟩
theorem zEe {w : World} {r : Nat} {o o' : Obj} (h : w.heap[r]? = some o') : (w.putObj r o).heap[r]? = some o := World.putObj_heap_same (lt_of_block h)
theorem Keeps.putObj {F : Nat → Prop} {a b : World} (h : Keeps F a b) (r : Nat) (o : Obj) (hr : r < a.heap.size → F r) : Keeps F a (b.putObj r o) :=
  ⟨h.os, h.tape, h.output, by have := h.size; simpa using this, fun i hi hf => (World.putObj_heap_other (fun e => hf (by rw [e] at hi ⊢; exact hr hi))).trans (h.block i hi hf)⟩
theorem zCc {w : World} {b i : Nat} {cs : Array Value} {E : TypeId} {fz : Nat × Nat} {v : Value} (h : w.heap[b]? = some (.cells cs E fz)) (hi : cs[i]? = some v) : w.cell? ⟨b, i, none⟩ = some v := by
  simp [World.cell?, h, hi]
theorem free_at {w : World} {b i : Nat} {cs : Array Value} {E : TypeId} (h : w.heap[b]? = some (.cells cs E (0, 0))) : w.frozen? ⟨b, i, none⟩ = false := by
  simp [World.frozen?, h]
theorem zF {w : World} {b i : Nat} {cs : Array Value} {E : TypeId} {fz : Nat × Nat} {v : Value} (h : w.heap[b]? = some (.cells cs E fz)) : (w.setCell ⟨b, i, none⟩ v).heap[b]? = some (.cells (cs.setIfInBounds i v) E fz) := by
  have hlt := lt_of_block h
  have h' : w.heap[b] = .cells cs E fz := by simpa [Array.getElem?_eq_getElem hlt] using h
  show (w.heap.modify b _)[b]? = _
  rw [Array.getElem?_eq_getElem (by simpa using hlt), Array.getElem_modify_self, h']
  rfl
theorem heap_alloc_old {w : World} {o o' : Obj} {k : Nat} (h : w.heap[k]? = some o') : (w.alloc o).heap[k]? = some o' := (Below.heap_alloc w o k (lt_of_block h)).trans h
def zEs (w : World) (v : Value) (l : List Value) : Prop :=
  ∃ a n c, v = .slice a n c ∧ n = l.length ∧ n ≤ c ∧ (a = none → c = 0) ∧
    (c = 0 ∨ ∃ b off cs E fz, a = some ⟨b, off, none⟩ ∧ w.heap[b]? = some (.cells cs E fz) ∧ off + c ≤ cs.size ∧ ∀ i, i < l.length → cs[off + i]? = l[i]?)
def blk : Value → Option Nat
  | .slice (some a) _ _ => some a.block
  | _ => none
theorem zEs.nil (w : World) : zEs w (.slice none 0 0) [] := ⟨none, 0, 0, rfl, rfl, Nat.le_refl _, fun _ => rfl, .inl rfl⟩
theorem zEs.keep {F : Nat → Prop} {w w' : World} {v : Value} {l : List Value} (h : zEs w v l) (k : Keeps F w w') (hF : ∀ b, blk v = some b → ¬ F b) : zEs w' v l := by
  obtain ⟨a, n, c, rfl, hn, hc, ha, h⟩ := h; refine ⟨a, n, c, rfl, hn, hc, ha, ?_⟩
  rcases h with h | ⟨b, off, cs, E, fz, rfl, hb, r⟩
  · exact .inl h
  · exact .inr ⟨b, off, cs, E, fz, rfl, k.get hb (hF b rfl), r⟩
theorem zEs.below {B : Nat} {w w' : World} {v : Value} {l : List Value} (h : zEs w v l) (k : Below B w w') (hF : ∀ b, blk v = some b → b < B) : zEs w' v l := by
  obtain ⟨a, n, c, rfl, hn, hc, ha, h⟩ := h; refine ⟨a, n, c, rfl, hn, hc, ha, ?_⟩
  rcases h with h | ⟨b, off, cs, E, fz, rfl, hb, r⟩
  · exact .inl h
  · exact .inr ⟨b, off, cs, E, fz, rfl, (k.block b (hF b rfl)).trans hb, r⟩
theorem zEs.drew {w : World} {v : Value} {l : List Value} (h : zEs w v l) : zEs w.drew v l := h
theorem zEs.open {w : World} {a : Option Addr} {n c : Nat} {l : List Value} (h : zEs w (.slice a n c) l) :
    n = l.length ∧ n ≤ c ∧ (a = none → c = 0) ∧ (c = 0 ∨ ∃ b off cs E fz, a = some ⟨b, off, none⟩ ∧ w.heap[b]? = some (.cells cs E fz) ∧ off + c ≤ cs.size ∧ ∀ i, i < l.length → cs[off + i]? = l[i]?) := by
  obtain ⟨a', n', c', hv, r⟩ := h; simp only [Value.slice.injEq] at hv; obtain ⟨rfl, rfl, rfl⟩ := hv; exact r
theorem zEs.len {w : World} {a : Option Addr} {n c : Nat} {l : List Value} (h : zEs w (.slice a n c) l) : l.length = n := h.open.1.symm
theorem zEs.cell {w : World} {a : Option Addr} {n c : Nat} {l : List Value} (h : zEs w (.slice a n c) l) {i : Nat} (hi : i < n) :
    ∃ b off, a = some ⟨b, off, none⟩ ∧ b < w.heap.size ∧ ∀ j (hj : j < l.length), w.cell? ⟨b, off + j, none⟩ = some l[j] := by
  obtain ⟨hn, hc, _, h | ⟨b, off, cs, E, fz, rfl, hb, _, hcs⟩⟩ := h.open
  · omega
  · exact ⟨b, off, rfl, lt_of_block hb, fun j hj => zCc hb (by rw [hcs j hj, List.getElem?_eq_getElem hj])⟩
section
variable {P : Program} {ops : Array Oper} {Q : Exit → Act → World → Prop} {a : Act} {w : World} {rest : List Oper} {o : Oper}
theorem wpList_run (hg : o.guard = none) {v : Value} {w' : World} (h : (execOp a.eval o).run P w = .ok (.value v) w') (hK : wpList P ops Q rest (a.put o.dst v) w') : wpList P ops Q (o :: rest) a w := by
  refine wpList_plain hg fun K hK' => ?_
  unfold Oper.wp
  rw [h]; exact hK' _ _ hK
theorem wpList_skips (hg : o.guard = none) {w' : World} (h : (execOp a.eval o).run P w = .ok .skip w') (hK : wpList P ops Q rest (a.put o.dst undef) w') : wpList P ops Q (o :: rest) a w := by
  refine wpList_plain hg fun K hK' => ?_
  unfold Oper.wp
  rw [h]; exact hK' _ _ hK
end
theorem zDz {a b : Bool} (h : a = b) : Ending.returned (.bool a) = .returned (.bool b) := by rw [h]
theorem ret_int {k : IntKind} {a b : Int} (h : a = b) : Ending.returned (.int k a) = .returned (.int k b) := by rw [h]
def u8v (x : UInt8) : Value := .int .u8 x.toNat
end
section
open Go.RowKit
variable {P : Program}
def ownV (w : World) (v : Value) (l : List Value) : Prop :=
  ∃ a n c, v = .slice a n c ∧ n = l.length ∧ n ≤ c ∧ ((a = none → c = 0) ∧ ∀ b, blk v = some b → b < w.heap.size) ∧
    (c = 0 ∨ ∃ b off cs E, a = some ⟨b, off, none⟩ ∧ w.heap[b]? = some (.cells cs E (0, 0)) ∧ off + c ≤ cs.size ∧ ∀ i, i < l.length → cs[off + i]? = l[i]?)
theorem ownV.seq {w : World} {v : Value} {l : List Value} (h : ownV w v l) : zEs w v l := by
  obtain ⟨a, n, c, rfl, hn, hc, ha, h⟩ := h; refine ⟨a, n, c, rfl, hn, hc, ha.1, ?_⟩
  rcases h with h | ⟨b, off, cs, E, rfl, hb, r⟩
  · exact .inl h
  · exact .inr ⟨b, off, cs, E, (0, 0), rfl, hb, r⟩
theorem ownV.lt {w : World} {v : Value} {l : List Value} (h : ownV w v l) : ∀ b, blk v = some b → b < w.heap.size := by
  obtain ⟨a, n, c, rfl, hn, hc, ha, h⟩ := h; exact ha.2
theorem ownV.nil (w : World) : ownV w (.slice none 0 0) [] := ⟨none, 0, 0, rfl, rfl, Nat.le_refl _, ⟨fun _ => rfl, fun _ h => by cases h⟩, .inl rfl⟩
theorem ownV.keep {F : Nat → Prop} {w w' : World} {v : Value} {l : List Value} (h : ownV w v l) (k : Keeps F w w') (hF : ∀ b, blk v = some b → ¬ F b) : ownV w' v l := by
  obtain ⟨a, n, c, rfl, hn, hc, ha, h⟩ := h; refine ⟨a, n, c, rfl, hn, hc, ⟨ha.1, fun b hb => Nat.lt_of_lt_of_le (ha.2 b hb) k.size⟩, ?_⟩
  rcases h with h | ⟨b, off, cs, E, rfl, hb, r⟩
  · exact .inl h
  · exact .inr ⟨b, off, cs, E, rfl, k.get hb (hF b rfl), r⟩
theorem zFm {b : Nat} {E : TypeId} : ∀ (vs : List Value) (o : Nat) (w : World) (cs : Array Value), w.heap[b]? = some (.cells cs E (0, 0)) → o + vs.length ≤ cs.size →
    ∃ cs' : Array Value, (w.setCells b o vs).heap[b]? = some (.cells cs' E (0, 0)) ∧ cs'.size = cs.size ∧ (∀ j, j < o → cs'[j]? = cs[j]?) ∧ (∀ j, j < vs.length → cs'[o + j]? = vs[j]?) ∧ (∀ j, o + vs.length ≤ j → cs'[j]? = cs[j]?) ∧ Keeps (· = b) w (w.setCells b o vs) ∧ (w.setCells b o vs).heap.size = w.heap.size
  | [], o, w, cs, h, _ => ⟨cs, h, rfl, fun _ _ => rfl, fun _ hj => absurd hj (by simp), fun _ _ => rfl, Keeps.refl _ _, rfl⟩
  | v :: vs, o, w, cs, h, hs => by
    have h1 := zF (i := o) (v := v) h; obtain ⟨cs', h2, hsz, hlo, hmid, hhi, hk, hz⟩ := zFm vs (o + 1) (w.setCell ⟨b, o, none⟩ v) (cs.setIfInBounds o v) h1 (by simp at hs ⊢; omega); refine ⟨cs', h2, by simpa using hsz, fun j hj => ?_, fun j hj => ?_, fun j hj => ?_, ((Keeps.refl (· = b) w).setCell ⟨b, o, none⟩ v (fun _ => rfl)).trans hk, by rw [World.setCells, hz]; simp⟩
    · rw [hlo j (by omega), Array.getElem?_setIfInBounds_ne (by omega)]
    · cases j with
      | zero => rw [Nat.add_zero, hlo o (by omega), Array.getElem?_setIfInBounds_self_of_lt (by simp at hs; omega)]; rfl
      | succ j => rw [show o + (j + 1) = o + 1 + j by omega, hmid j (by simpa using hj)]; rfl
    · rw [hhi j (by simp at hj ⊢; omega), Array.getElem?_setIfInBounds_ne (by simp at hj; omega)]
theorem zCr {w : World} {v : Value} {l : List Value} {tx e : TypeId} (hk : P.underlying tx = some (.slice e)) (h : zEs w v l) (h1 : ∀ u ∈ l, u.oneCell' = true) : Src P 1 tx v l.length l w := by
  obtain ⟨a, n, c, rfl, hn, hc, ha, h⟩ := h; subst hn
  cases a with
  | none =>
    have hc0 := ha rfl; subst hc0; have : l = [] := List.eq_nil_of_length_eq_zero (by omega); subst this; exact Src.ofNil w hk 0
  | some a =>
    refine Src.ofSlice w hk a l.length c l (by simp) (fun j u hj => ?_) h1; have hjl := (List.getElem?_eq_some_iff.1 hj).1
    rcases h with h | ⟨b, off, cs, E, fz, ha, hb, _, hcs⟩
    · omega
    · obtain rfl := Option.some.inj ha
      rw [Addr.add_lit]; exact zCc hb (by rw [hcs j hjl, hj])
theorem firstCells_own {w : World} {a : Option Addr} {n c : Nat} {l : List Value} (h : ownV w (.slice a n c) l) (w' : World) (hw : ∀ x, w'.cell? x = w.cell? x) : (Builtin.firstCells 1 n (.slice a n c)).run P w' = .ok l.toArray w' := by
  have h0 := h.seq; clear h; obtain ⟨hn, hc, ha, h⟩ := h0.open; clear h0; subst hn
  cases a with
  | none =>
    have hc0 := ha rfl; have : l = [] := List.eq_nil_of_length_eq_zero (by omega); subst this; exact run_firstCells_none w' 1 0 0 c
  | some a =>
    refine run_firstCells_some w' 1 l.length a l.length c l (by simp) (fun j u hj => ?_); have hjl := (List.getElem?_eq_some_iff.1 hj).1
    rcases h with h | ⟨b, off, cs, E, fz, ha, hb, _, hcs⟩
    · omega
    · obtain rfl := Option.some.inj ha
      rw [Addr.add_lit, hw]; exact zCc hb (by rw [hcs j hjl, hj])
theorem run_append_any {w : World} {t tx ty e : TypeId} {i : TypeInfo} {z : Value} (ht : P.underlying t = some (.slice e)) (hi : P.info? e = some i) (hz : i.zero = some z) (hs : i.size = 1) (hzc : z.cells.size = 1)
    {v x : Value} {xs news : List Value} (hown : ownV w v xs) (hsrc : Src P 1 tx x news.length news w) (hb : (xs.length + news.length) * i.bytes ≤ 140737488355328) (hlen : xs.length + news.length ≤ 9223372036854775807) :
    ∃ v' w', (Builtin.append_ #[t, tx] ty #[v, x]).run P w = .ok v' w' ∧ ownV w' v' (xs ++ news) ∧ Keeps (fun k => blk v = some k) w w' ∧ (v' = v ∧ news = [] ∧ w' = w ∨ blk v' = blk v ∧ (blk v).isSome ∨ blk v' = some w.heap.size) ∧ (v' = .slice none 0 0 → xs ++ news = []) := by
  obtain ⟨a, n, c, rfl, hn, hc, ha, h⟩ := hown; subst hn
  have hsrc' : Src P i.size tx x news.length news w := by rw [hs]; exact hsrc
  by_cases hroom : xs.length + news.length ≤ c
  · rcases h with h | ⟨b, off, cs, E, rfl, hb', hcap, hcs⟩
    · have hx : xs = [] := List.eq_nil_of_length_eq_zero (by omega)
      have hne : news = [] := List.eq_nil_of_length_eq_zero (by omega); subst hx hne h; refine ⟨.slice a 0 0, w, ?_, ⟨a, 0, 0, rfl, rfl, Nat.le_refl _, ⟨fun _ => rfl, ha.2⟩, .inl rfl⟩, Keeps.refl _ _, .inl ⟨rfl, rfl, rfl⟩, fun _ => rfl⟩; have hc0 := hsrc.cells; have hl0 := hsrc.len; simp only [List.length_nil] at hc0 hl0
      cases a with
      | none => rcases hsrc.kind with ⟨e', hk⟩ | hk <;> simp [Builtin.append_, run_underlying ht, run_underlying hk, sizeOf, typeInfo, hi, hl0, hs, hc0]
      | some a =>
        rcases hsrc.kind with ⟨e', hk⟩ | hk <;> simp [Builtin.append_, run_underlying ht, run_underlying hk, sizeOf, typeInfo, hi, hl0, hs, hc0, storeCells]
    · obtain ⟨cs', h2, hsz, hlo, hmid, _, hk, hz⟩ := zFm news (off + xs.length) w cs hb' (by omega)
      have hr := run_append_room_src (P := P) w t tx ty e i ht hi b off xs.length c x news.length news hsrc' hroom
        (fun j hj => by rw [hs, Nat.mul_one, zCc hb' (Array.getElem?_eq_getElem (by omega))]; rfl) (fun j _ => free_at hb')
      rw [hs, Nat.mul_one] at hr; refine ⟨_, _, hr, ⟨_, _, _, rfl, by simp, hroom, ⟨(fun h => by cases h), fun b' hb' => by rw [hz]; exact ha.2 b' hb'⟩, .inr ⟨b, off, cs', E, rfl, h2, by omega, fun j hj => ?_⟩⟩, hk.mono (fun k _ hk => by simp [blk, hk]), .inr (.inl ⟨rfl, rfl⟩), fun h => by simp at h⟩
      by_cases hj' : j < xs.length
      · rw [hlo (off + j) (by omega), hcs j hj', List.getElem?_append_left hj']
      · have := hmid (j - xs.length) (by simp at hj; omega)
        rw [show off + xs.length + (j - xs.length) = off + j by omega] at this; rw [this, List.getElem?_append_right (by omega)]
  · have hr := run_append_grow_src (P := P) w t tx ty e i z ht hi hz a xs.length c xs (by rw [hs]; exact firstCells_own ⟨a, _, c, rfl, rfl, hc, ha, h⟩ _ (fun _ => rfl)) x news.length news hsrc' (by omega) (by omega) (growslice_fits (by omega) hb)
    have hge := grownCap_ge w (xs.length + news.length) c e; refine ⟨_, _, hr, ⟨_, _, _, rfl, by simp, hge, ⟨(fun h => by cases h), fun b' hb' => by cases hb'; simp⟩, .inr ⟨_, 0, _, e, rfl, heap_alloc_new _ _, ?_, fun j hj => ?_⟩⟩, ((Keeps.refl _ w).drew).alloc _, .inr (.inr rfl), fun h => by simp at h⟩
    · simp only [Array.size_append, List.size_toArray, List.length_append, size_zeroCells, hzc]; omega
    · rw [Nat.zero_add, Array.getElem?_append_left (by simpa using hj), List.getElem?_toArray]
theorem wpList_append_any {ops : Array Oper} {rest : List Oper} {o : Oper} {a : Act} {w : World} {Q : Exit → Act → World → Prop} (hg : o.guard = none) (s x : Operand) (t tx : TypeId)
    (ho : o.op = .call { callee := .builtin .append, args := #[s, x], argTypes := #[t, tx] })
    {e : TypeId} {i : TypeInfo} {z : Value} (ht : P.underlying t = some (.slice e)) (hi : P.info? e = some i) (hz : i.zero = some z) (hs : i.size = 1) (hzc : z.cells.size = 1)
    {v xv : Value} {xs news : List Value} (hv : a.eval s = v) (hx : a.eval x = xv) (hown : ownV w v xs) (hsrc : Src P 1 tx xv news.length news w) (hb : (xs.length + news.length) * i.bytes ≤ 140737488355328) (hlen : xs.length + news.length ≤ 9223372036854775807)
    (hK : ∀ v' w', ownV w' v' (xs ++ news) → Keeps (fun k => blk v = some k) w w' → (v' = v ∧ news = [] ∧ w' = w ∨ blk v' = blk v ∧ (blk v).isSome ∨ blk v' = some w.heap.size) → (v' = .slice none 0 0 → xs ++ news = []) → wpList P ops Q rest (a.put o.dst v') w') :
    wpList P ops Q (o :: rest) a w := by
  obtain ⟨v', w', hrun, h1, h2, h3, h4⟩ := run_append_any (ty := o.type) ht hi hz hs hzc hown hsrc hb hlen; refine wpList_run hg (v := v') (w' := w') ?_ (hK v' w' h1 h2 h3 h4); obtain ⟨dst, op, type, pos, after, guard⟩ := o
  dsimp only at ho hrun
  subst ho hv hx; rw [BigFrame.execOp_builtin, BigFrame.builtin_append]
  have hm : (#[s, x] : Array Operand).map a.eval = #[a.eval s, a.eval x] := by simp
  rw [hm]; simp only [Sem.run_bind, hrun, Result.andThen, Sem.run_pure]
theorem wpList_buildSeq {ops : Array Oper} {rest : List Oper} {o : Oper} {a : Act} {w : World} {Q : Exit → Act → World → Prop} (hg : o.guard = none) (t : TypeId) (len : Nat) (parts : Array (Nat × Operand)) (ho : o.op = .buildSlice t len parts)
    {e : TypeId} {i : TypeInfo} {z : Value} (hu : P.underlying t = some (.slice e)) (hi : P.info? e = some i) (hz : i.zero = some z) (hs : i.size = 1) (vs : List Value)
    (hparts : (parts.toList.map fun p => (p.1, a.eval p.2)) = (vs.zipIdx 0).map fun x => (x.2, x.1)) (h1 : ∀ u ∈ vs, u.cells = #[u]) (hlen : len = vs.length) (hpos : 0 < len) (hsmall : len ≤ 16777216)
    (h : wpList P ops Q rest (a.put o.dst (.slice (some ⟨w.heap.size, 0, none⟩) len len)) (w.alloc (.cells vs.toArray e))) : wpList P ops Q (o :: rest) a w := by
  refine wpList_buildSlice hg t e len parts ho _ i z hu hi hz (by rw [hs]; omega) (by rw [hs]; omega) ?_ h; rw [Array.toList_map, show (fun (x : Nat × Operand) => match x with | (i, x) => (i, a.eval x)) = (fun p => (p.1, a.eval p.2)) from rfl, hparts, hs]; exact Great.fill_flat _ _ h1 (by simp [hlen])
theorem zE4 {ops : Array Oper} {rest : List Oper} {o : Oper} {a : Act} {w : World} {Q : Exit → Act → World → Prop} (hgd : o.guard = none) (ty : TypeId) (x y : Operand) (ho : o.op = .store ty x y)
    (g : Nat) (cells : Array Value) (hx : a.eval x = .pointer (some ⟨g, 0, none⟩)) (hy : a.eval y = .agg cells)
    {t : TypeId} {old : Array Value} (hg : w.heap[g]? = some (.cells old t (0, 0))) (hi : (P.info? ty).map (·.size) = some cells.size)
    (hold : old.size = cells.size) (h1 : cells.all (·.oneCell') = true)
    (h : ∀ w' : World, w'.heap[g]? = some (.cells cells t (0, 0)) → Keeps (· = g) w w' → w'.heap.size = w.heap.size → wpList P ops Q rest (a.put o.dst undef) w') : wpList P ops Q (o :: rest) a w :=
  wpList_store_row hgd ty x y ho g cells hx hy t old hg hi hold h1
    (h _ (setRow_heap w g old cells t (0, 0) hg) ⟨rfl, rfl, rfl, by simp [World.setRow], fun k _ hk => setRow_other w g k cells hk⟩ (by simp [World.setRow]))
theorem zEl {w : World} {T : TypeId} {b : Nat} {vs : Array Value} {E : TypeId} {fz : Nat × Nat} (hagg : (isAgg T).run P w = .ok true w) (hi : (P.info? T).map (·.size) = some vs.size) (hb : w.heap[b]? = some (.cells vs E fz)) :
    (loadVar T ⟨b, 0, none⟩).run P w = .ok (.agg vs) w := by
  obtain ⟨i, hi, hs⟩ := Option.map_eq_some_iff.1 hi
  have hl : (loadCells ⟨b, 0, none⟩ vs.size).run P w = .ok vs w := by
    have := run_loadCells_list (P := P) w ⟨b, 0, none⟩ vs.toList (fun j v hj => by rw [Addr.add_lit, Nat.zero_add]; exact zCc hb (by simpa using hj))
    simpa using this
  simp [loadVar, hagg, sizeOf, typeInfo, hi, hs, hl, Sem.run_bind, Result.andThen]
theorem results_row {fn : Func} {t : Tmp} {T : TypeId} (h : fn.results = #[.cell t T]) {tmps : Array Value} {w : World} {b : Nat} {vs : Array Value} {E : TypeId} {fz : Nat × Nat} (hp : tmps.getD t undef = .pointer (some ⟨b, 0, none⟩))
    (hagg : (isAgg T).run P w = .ok true w) (hi : (P.info? T).map (·.size) = some vs.size) (hb : w.heap[b]? = some (.cells vs E fz)) : (results fn tmps).run P w = .ok (.agg vs) w := by
  rw [Array.getD_eq_getD_getElem?] at hp
  simp [results, h, hp, asAddr, zEl hagg hi hb]
theorem wpList_storeCell {ops : Array Oper} {rest : List Oper} {o : Oper} {a : Act} {w : World} {Q : Exit → Act → World → Prop} (hgd : o.guard = none) (ty : TypeId) (x y : Operand) (ho : o.op = .store ty x y)
    (b i : Nat) (v : Value) (hx : a.eval x = .pointer (some ⟨b, i, none⟩)) (hy : a.eval y = v)
    {t : TypeId} {cs : Array Value} (hg : w.heap[b]? = some (.cells cs t (0, 0))) (hi : (P.info? ty).map (·.size) = some 1) (hlt : i < cs.size) (h1 : v.oneCell' = true)
    (h : ∀ w' : World, w'.heap[b]? = some (.cells (cs.setIfInBounds i v) t (0, 0)) → Keeps (· = b) w w' → w'.heap.size = w.heap.size → wpList P ops Q rest (a.put o.dst undef) w') : wpList P ops Q (o :: rest) a w := by
  obtain ⟨inf, hinf, hs⟩ := Option.map_eq_some_iff.1 hi; have hcell : w.cell? ⟨b, i, none⟩ = some cs[i] := zCc hg (Array.getElem?_eq_getElem hlt); have hfree : w.frozen? ⟨b, i, none⟩ = false := free_at hg; refine wpList_skips hgd (w' := w.setCell ⟨b, i, none⟩ v) ?_ (h _ (zF hg) ((Keeps.refl _ w).setCell _ _ fun _ => rfl) (by simp))
  unfold execOp
  simp only [ho, hx, hy]
  have hst : (storeVar ty ⟨b, i, none⟩ v).run P w = .ok () (w.setCell ⟨b, i, none⟩ v) := by
    cases v <;> first
      | (simp [Value.oneCell'] at h1; done)
      | simp [storeVar, sizeOf, typeInfo, hinf, hs, Value.cells, storeCells, store, Sem.run, hcell, hfree, Addr.add]
  simp [Instr.storeAt, hst, Instr.sureAddr]
end
section
open Go.RowKit Go.MapKept
variable {P : Program} {κ : Type} {α β : Type}
section lists
variable [DecidableEq κ]
def zAx : List (κ × α) → κ → Option α
  | [], _ => none
  | (k', v) :: r, k => if k' = k then some v else zAx r k
def zC1 : List (κ × α) → κ → α → List (κ × α)
  | [], k, v => [(k, v)]
  | (k', v') :: r, k, v => if k' = k then (k, v) :: r else (k', v') :: zC1 r k v
def zDe : List (κ × α) → κ → List (κ × α)
  | [], _ => []
  | (k', v') :: r, k => if k' = k then r else (k', v') :: zDe r k
def zAm (l : List (κ × α)) : List κ := l.map (·.1)
theorem zB7 (l : List (κ × α)) (k : κ) (v : α) : zAx (zC1 l k v) k = some v := by
  induction l with
  | nil => simp [zC1, zAx]
  | cons p l ih => obtain ⟨k', v'⟩ := p; by_cases h : k' = k <;> simp [zC1, zAx, h, ih]
theorem zB1 (l : List (κ × α)) {k k2 : κ} (v : α) (h : k2 ≠ k) : zAx (zC1 l k v) k2 = zAx l k2 := by
  induction l with
  | nil => simp [zC1, zAx, Ne.symm h]
  | cons p l ih =>
    obtain ⟨k', v'⟩ := p
    by_cases h1 : k' = k
    · subst h1; simp [zC1, zAx, Ne.symm h]
    · by_cases h2 : k' = k2
      · subst h2; simp [zC1, zAx, h1]
      · simp [zC1, zAx, h1, h2, ih]
theorem zBe (l : List (κ × α)) (k : κ) : zAx l k = none ↔ k ∉ zAm l := by
  induction l with
  | nil => simp [zAx, zAm]
  | cons p l ih =>
    obtain ⟨k', v'⟩ := p
    by_cases h : k' = k
    · simp [zAx, zAm, h]
    · have h' : ¬ k = k' := fun e => h e.symm
      simp only [zAx, h, if_false, ih, zAm, List.map_cons, List.mem_cons, h', false_or]
theorem zCy {l : List (κ × α)} {k : κ} {v : α} (h : zAx l k = some v) : (k, v) ∈ l := by
  induction l with
  | nil => simp [zAx] at h
  | cons p l ih =>
    obtain ⟨k', v'⟩ := p
    by_cases h1 : k' = k
    · subst h1; simp [zAx] at h; simp [h]
    · simp only [zAx, h1, if_false] at h; exact .tail _ (ih h)
theorem mem_aget {l : List (κ × α)} (hn : (zAm l).Nodup) {k : κ} {v : α} (h : (k, v) ∈ l) : zAx l k = some v := by
  induction l with
  | nil => cases h
  | cons p l ih =>
    obtain ⟨k', v'⟩ := p; simp only [zAm, List.map_cons, List.nodup_cons] at hn
    rcases List.mem_cons.1 h with h | h
    · cases h; simp [zAx]
    · have : k' ≠ k := fun e => hn.1 (List.mem_map.2 ⟨(k, v), h, e.symm⟩)
      simp only [zAx, this, if_false]; exact ih hn.2 h
theorem zF4 (l : List (κ × α)) (k : κ) (v : α) : zAm (zC1 l k v) = if k ∈ zAm l then zAm l else zAm l ++ [k] := by
  induction l with
  | nil => simp [zC1, zAm]
  | cons p l ih =>
    obtain ⟨k', v'⟩ := p
    by_cases h : k' = k
    · subst h; simp [zC1, zAm]
    · have h' : ¬ k = k' := fun e => h e.symm
      simp only [zAm] at ih ⊢
      by_cases h2 : k ∈ l.map (·.1) <;> simp [zC1, h, h', h2, ih]
theorem nodup_put {l : List (κ × α)} (hn : (zAm l).Nodup) (k : κ) (v : α) : (zAm (zC1 l k v)).Nodup := by
  rw [zF4]
  split
  · exact hn
  · rename_i h
    rw [List.nodup_append]; exact ⟨hn, by simp, fun a ha b hb => by simp at hb; subst hb; exact fun e => h (e ▸ ha)⟩
theorem zF3 {l : List (κ × α)} (hn : (zAm l).Nodup) (k : κ) : zAm (zDe l k) = (zAm l).filter (fun x => decide (x ≠ k)) := by
  induction l with
  | nil => simp [zDe, zAm]
  | cons p l ih =>
    obtain ⟨k', v'⟩ := p; simp only [zAm, List.map_cons, List.nodup_cons] at hn
    by_cases h : k' = k
    · subst h
      have : List.filter (fun x => decide (x ≠ k')) (l.map (·.1)) = l.map (·.1) := List.filter_eq_self.2 fun a ha => by simp; exact fun e => hn.1 (e ▸ ha)
      simpa [zDe, zAm] using this.symm
    · have ih' := ih hn.2
      simp only [zAm] at ih' ⊢; simp only [zDe, h, if_false, List.map_cons, ih']; rw [List.filter_cons_of_pos (by simp [h])]
theorem nodup_del {l : List (κ × α)} (hn : (zAm l).Nodup) (k : κ) : (zAm (zDe l k)).Nodup := by
  rw [zF3 hn]; exact hn.filter _
theorem zCw {l : List (κ × α)} (hn : (zAm l).Nodup) (k : κ) : zAx (zDe l k) k = none := by
  rw [zBe, zF3 hn]; simp
theorem zCu (l : List (κ × α)) {k k2 : κ} (h : k2 ≠ k) : zAx (zDe l k) k2 = zAx l k2 := by
  induction l with
  | nil => simp [zDe]
  | cons p l ih =>
    obtain ⟨k', v'⟩ := p
    by_cases h1 : k' = k
    · subst h1; simp [zDe, zAx, Ne.symm h]
    · by_cases h2 : k' = k2
      · subst h2; simp [zDe, zAx, h1]
      · simp [zDe, zAx, h1, h2, ih]
end lists
def ARel (R : α → β → Prop) : List (κ × α) → List (κ × β) → Prop
  | [], [] => True
  | p :: l, q :: m => (p.1 = q.1 ∧ R p.2 q.2) ∧ ARel R l m
  | _, _ => False
theorem arel_ind {R : α → β → Prop} {M : List (κ × α) → List (κ × β) → Prop} (h0 : M [] []) (h1 : ∀ k a b l m, R a b → ARel R l m → M l m → M ((k, a) :: l) ((k, b) :: m)) :
    ∀ (l : List (κ × α)) (m : List (κ × β)), ARel R l m → M l m
  | [], [], _ => h0
  | (k, a) :: l, (k', b) :: m, h => by
    obtain ⟨⟨hk, hr⟩, ht⟩ := h
    dsimp only at hk hr
    subst hk; exact h1 k a b l m hr ht (arel_ind h0 h1 l m ht)
  | [], _ :: _, h => h.elim
  | _ :: _, [], h => h.elim
theorem ARel.keys {R : α → β → Prop} {l : List (κ × α)} {m : List (κ × β)} (h : ARel R l m) : zAm l = zAm m :=
  arel_ind (M := fun (l : List (κ × α)) (m : List (κ × β)) => zAm l = zAm m) rfl (fun k a b l m _ _ ih => by simp only [zAm, List.map_cons] at ih ⊢; rw [ih]) l m h
theorem ARel.mono {R S : α → β → Prop} {l : List (κ × α)} {m : List (κ × β)} (h : ARel R l m) (hs : ∀ k a b, (k, a) ∈ l → (k, b) ∈ m → R a b → S a b) : ARel S l m :=
  arel_ind (M := fun l m => (∀ k a b, (k, a) ∈ l → (k, b) ∈ m → R a b → S a b) → ARel S l m) (fun _ => trivial)
    (fun k a b _ _ hr _ ih hs => ⟨⟨rfl, hs k a b (.head _) (.head _) hr⟩, ih fun k' a' b' ha hb => hs k' a' b' (.tail _ ha) (.tail _ hb)⟩) l m h hs
theorem ARel.get [DecidableEq κ] {R : α → β → Prop} {l : List (κ × α)} {m : List (κ × β)} (h : ARel R l m) (k : κ) : (zAx l k = none ∧ zAx m k = none) ∨ ∃ a b, zAx l k = some a ∧ zAx m k = some b ∧ R a b :=
  arel_ind (M := fun l m => (zAx l k = none ∧ zAx m k = none) ∨ ∃ a b, zAx l k = some a ∧ zAx m k = some b ∧ R a b) (.inl ⟨rfl, rfl⟩)
    (fun k' a b l m hr _ ih => by
      by_cases e : k' = k
      · exact .inr ⟨a, b, by simp [zAx, e], by simp [zAx, e], hr⟩
      · simpa only [zAx, e, if_false] using ih) l m h
theorem ARel.put [DecidableEq κ] {R : α → β → Prop} {l : List (κ × α)} {m : List (κ × β)} (h : ARel R l m) (k : κ) {a : α} {b : β} (hab : R a b) : ARel R (zC1 l k a) (zC1 m k b) :=
  arel_ind (M := fun l m => ARel R (zC1 l k a) (zC1 m k b)) ⟨⟨rfl, hab⟩, trivial⟩
    (fun k' a' b' l m hr ht ih => by
      by_cases e : k' = k
      · simp only [zC1, e, if_true]; exact ⟨⟨rfl, hab⟩, ht⟩
      · simp only [zC1, e, if_false]; exact ⟨⟨rfl, hr⟩, ih⟩) l m h
structure KeyKind (d : TypeDesc) (enc : κ → Value) : Prop where
  isKey : ∀ k, IsKey d (enc k)
  inj : ∀ a b, enc a = enc b → a = b
theorem zEf : KeyKind .string Value.string := ⟨fun _ => trivial, fun a b h => by cases h; rfl⟩
theorem zE9 : KeyKind (.int .i64) (Value.int .i64) := ⟨fun _ => rfl, fun a b h => by cases h; rfl⟩
def kv (e : MapEntry) : Value × Value := (e.key, e.val)
def ekv (enc : κ → Value) (p : κ × Value) : Value × Value := (enc p.1, p.2)
def zF2 (w : World) (enc : κ → Value) (m : Nat) (es : List (κ × Value)) : Prop :=
  ∃ arr clock, w.heap[m]? = some (.map arr clock) ∧ arr.toList.map kv = es.map (ekv enc) ∧ Stamped arr clock
theorem zF2.keep {F : Nat → Prop} {w w' : World} {enc : κ → Value} {m : Nat} {es : List (κ × Value)} (h : zF2 w enc m es) (k : Keeps F w w') (hF : ¬ F m) : zF2 w' enc m es := by
  obtain ⟨arr, clock, hb, r⟩ := h; exact ⟨arr, clock, k.get hb hF, r⟩
theorem zF2.lt {w : World} {enc : κ → Value} {m : Nat} {es : List (κ × Value)} (h : zF2 w enc m es) : m < w.heap.size := by
  obtain ⟨arr, clock, hb, r⟩ := h; exact lt_of_block hb
theorem zF2.made (w : World) (enc : κ → Value) : zF2 (w.alloc (.map #[] 0)) enc w.heap.size [] :=
  ⟨#[], 0, World.alloc_heap_new w _, rfl, by simp [Stamped]⟩
theorem zF2.nodup {w : World} {enc : κ → Value} {m : Nat} {es : List (κ × Value)} (h : zF2 w enc m es) : (zAm es).Nodup := by
  obtain ⟨arr, clock, _, he, _, _, hn⟩ := h
  have : arr.toList.map (·.key) = (zAm es).map enc := by
    have := congrArg (List.map Prod.fst) he
    simpa [kv, ekv, zAm, List.map_map, Function.comp_def] using this
  rw [this] at hn; rw [List.Nodup, List.pairwise_map] at hn
  exact hn.imp fun h e => h (by rw [e])
theorem zGw [DecidableEq κ] {d : TypeDesc} {enc : κ → Value} (K : KeyKind d enc) (k : κ) : ∀ (l : List MapEntry) (es : List (κ × Value)) (i : Nat), l.map kv = es.map (ekv enc) →
    (Instr.findNow d (enc k) l i = some none ∧ zAx es k = none ∧ ∀ v, zC1 es k v = es ++ [(k, v)]) ∨
    ∃ j v, Instr.findNow d (enc k) l i = some (some (i + j, v)) ∧ zAx es k = some v ∧ (∃ e, l[j]? = some e ∧ e.key = enc k) ∧ (∀ u, (l.set j ⟨enc k, u, (l[j]?.map (·.born)).getD 0⟩).map kv = (zC1 es k u).map (ekv enc)) ∧ (l.eraseIdx j).map kv = (zDe es k).map (ekv enc)
  | [], es, i, h => by
    cases es with
    | nil => exact .inl ⟨rfl, rfl, fun _ => rfl⟩
    | cons p es => cases h
  | e :: l, es, i, h => by
    cases es with
    | nil => cases h
    | cons p es =>
      obtain ⟨k', v'⟩ := p; simp only [List.map_cons, List.cons.injEq] at h; obtain ⟨h1, h2⟩ := h; simp only [kv, ekv, Prod.mk.injEq] at h1; obtain ⟨hk, hv⟩ := h1; obtain ⟨r, hr, hiff⟩ := sameNow_of_keys (K.isKey k) (K.isKey k'); rw [← hk] at hr
      cases r with
      | true =>
        have e1 : k = k' := K.inj _ _ (hiff.1 rfl); subst e1; refine .inr ⟨0, v', by simp [Instr.findNow, hr, hv], by simp [zAx], ⟨e, rfl, hk⟩, fun u => ?_, ?_⟩
        · simp [zC1, kv, ekv, h2]
        · simpa [zDe] using h2
      | false =>
        have hne : ¬ k' = k := fun q => by have := hiff.2 (by rw [q]); cases this
        rcases zGw K k l es (i + 1) h2 with ⟨g1, g2, g3⟩ | ⟨j, v, g1, g2, g3, g4, g5⟩
        · exact .inl ⟨by simp [Instr.findNow, hr, g1], by simp [zAx, hne, g2], fun v => by simp [zC1, hne, g3]⟩
        · refine .inr ⟨j + 1, v, by simp [Instr.findNow, hr, g1]; omega, by simp [zAx, hne, g2], by simpa using g3, fun u => ?_, ?_⟩
          · have := g4 u
            simp only [zC1, hne, if_false, List.set_cons_succ, List.map_cons, List.getElem?_cons_succ, this]
            simp [kv, ekv, hk, hv]
          · simp only [zDe, hne, if_false, List.eraseIdx_cons_succ, List.map_cons, g5]
            simp [kv, ekv, hk, hv]
section ops
variable [DecidableEq κ] {w : World} {d : TypeDesc} {enc : κ → Value}
theorem run_lookup_at (K : KeyKind d enc) {T kt et : TypeId} (hT : P.underlying T = some (.map kt et)) (hk : P.underlying kt = some d) {m : Nat} {es : List (κ × Value)} (h : zF2 w enc m es) (k : κ) {z : Value} (hz : (zeroValue et).run P w = .ok z w) (ok : Bool) :
    (Instr.lookup T (.map (some m)) (enc k) ok).run P w = .ok (if ok then .tuple #[(zAx es k).getD z, .bool (zAx es k).isSome] else (zAx es k).getD z) w := by
  obtain ⟨arr, clock, hb, he, hs⟩ := h
  rcases zGw K k arr.toList es 0 he with ⟨g1, g2, _⟩ | ⟨j, v, g1, g2, _⟩
  · simp [Instr.lookup, run_underlying hT, MapKept.run_getObj_map hb, run_checkKey hk (K.isKey k), run_findKey hk g1, g2, hz, Result.andThen]
  · simp [Instr.lookup, run_underlying hT, MapKept.run_getObj_map hb, run_checkKey hk (K.isKey k), run_findKey hk g1, g2, Result.andThen]
theorem run_update_at (K : KeyKind d enc) {T kt et : TypeId} (hT : P.underlying T = some (.map kt et)) (hk : P.underlying kt = some d) {m : Nat} {es : List (κ × Value)} (h : zF2 w enc m es) (k : κ) (v : Value) :
    ∃ o, (Instr.mapUpdate T (.map (some m)) (enc k) v).run P w = .ok () (w.putObj m o) ∧ zF2 (w.putObj m o) enc m (zC1 es k v) := by
  obtain ⟨arr, clock, hb, he, hs⟩ := h
  rcases zGw K k arr.toList es 0 he with ⟨g1, g2, g3⟩ | ⟨j, v', g1, g2, ⟨e, g3, g3k⟩, g4, _⟩
  · refine ⟨.map (arr.push { key := enc k, val := v, born := clock }) (clock + 1), ?_, _, _, zEe hb, ?_, ?_⟩
    · simp [Instr.mapUpdate, run_underlying hT, MapKept.run_getObj_map hb, run_checkKey hk (K.isKey k), run_findKey hk g1, MapKept.run_setObj_map _ hb, Result.andThen, World.putObj]
    · rw [g3]
      simp [he, kv, ekv]
    · have hkeys : arr.toList.map (·.key) = (zAm es).map enc := by
        have := congrArg (List.map Prod.fst) he
        simpa [kv, ekv, zAm, List.map_map, Function.comp_def] using this
      obtain ⟨s1, s2, s3⟩ := hs; refine ⟨fun x hx => ?_, ?_, ?_⟩
      · rw [Array.toList_push, List.mem_append] at hx
        rcases hx with hx | hx
        · have := s1 x hx; omega
        · simp at hx; subst hx; simp
      · simp only [Array.toList_push, List.map_append, List.map_cons, List.map_nil]
        rw [List.nodup_append]; refine ⟨s2, by simp, fun a ha b hb' => ?_⟩; obtain ⟨x, hx, rfl⟩ := List.mem_map.1 ha
        simp at hb'; subst hb'
        have := s1 x hx
        omega
      · simp only [Array.toList_push, List.map_append, List.map_cons, List.map_nil]
        rw [List.nodup_append]; refine ⟨s3, by simp, fun a ha b hb' => ?_⟩
        simp at hb'; subst hb'
        rw [hkeys] at ha; obtain ⟨q, hq, rfl⟩ := List.mem_map.1 ha; intro e; exact (zBe es k).1 g2 (K.inj _ _ e ▸ hq)
  · have g3' : arr[j]? = some e := by simpa using g3
    refine ⟨.map (arr.modify j fun e => { e with key := enc k, val := v }) clock, ?_, _, _, zEe hb, ?_, ?_⟩
    · simp [Instr.mapUpdate, run_underlying hT, MapKept.run_getObj_map hb, run_checkKey hk (K.isKey k), run_findKey hk g1, g3', g3k, run_keyThatStays (K.isKey k), MapKept.run_setObj_map _ hb, Result.andThen, World.putObj]
    · rw [← g4 v]
      congr 1
      rw [g3]
      apply List.ext_getElem?
      intro i; simp only [Array.getElem?_toList, Array.getElem?_modify, List.getElem?_set]
      by_cases hij : j = i
      · subst hij
        simp only [if_true, g3', Option.map_some, Option.getD_some]; rw [if_pos (by simpa using (Array.getElem?_eq_some_iff.1 g3').1)]
      · simp [hij]
    · obtain ⟨s1, s2, s3⟩ := hs
      have hkeys := modify_keys j (fun e => { e with key := enc k, val := v }) (es := arr) (fun e' he' => by rw [g3'] at he'; cases he'; exact g3k.symm)
      have hborn : (arr.modify j fun e => { e with key := enc k, val := v }).toList.map (·.born) = arr.toList.map (·.born) := by
        apply List.ext_getElem?
        intro i; simp only [List.getElem?_map, Array.getElem?_toList, Array.getElem?_modify]
        by_cases hij : j = i
        · subst hij; cases arr[j]? <;> simp
        · simp [hij]
      refine ⟨fun x hx => ?_, hborn ▸ s2, hkeys ▸ s3⟩; have : x.born ∈ (arr.modify j fun e => { e with key := enc k, val := v }).toList.map (·.born) := List.mem_map.2 ⟨x, hx, rfl⟩; rw [hborn] at this; obtain ⟨y, hy, e'⟩ := List.mem_map.1 this
      rw [← e']; exact s1 y hy
theorem run_delete_at (K : KeyKind d enc) {T kt et : TypeId} (hT : P.underlying T = some (.map kt et)) (hk : P.underlying kt = some d) {m : Nat} {es : List (κ × Value)} (h : zF2 w enc m es) (k : κ) (ty : TypeId) :
    ∃ o, (Builtin.delete_ #[T, kt] ty #[.map (some m), enc k]).run P w = .ok (.tuple #[]) (w.putObj m o) ∧ zF2 (w.putObj m o) enc m (zDe es k) := by
  obtain ⟨arr, clock, hb, he, hs⟩ := h
  rcases zGw K k arr.toList es 0 he with ⟨g1, g2, g3⟩ | ⟨j, v', g1, g2, ⟨e, g3, g3k⟩, _, g5⟩
  · refine ⟨.map arr clock, ?_, _, _, zEe hb, ?_, hs⟩
    · simp [Builtin.delete_, run_underlying hT, MapKept.run_getObj_map hb, run_checkKey hk (K.isKey k), run_findKey hk g1, MapKept.run_setObj_map _ hb, Result.andThen, World.putObj]
    · rw [he]
      congr 1
      have : k ∉ zAm es := (zBe es k).1 g2; clear he hs g1 g3
      induction es with
      | nil => rfl
      | cons p es ih =>
        obtain ⟨k', v'⟩ := p
        have h1 : ¬ k' = k := fun e => this (by simp [zAm, e])
        simp only [zDe, h1, if_false]; rw [← ih (by simpa [zAx, h1] using g2) (fun hm => this (.tail _ hm))]
  · refine ⟨.map (arr.eraseIdxIfInBounds j) clock, ?_, _, _, zEe hb, ?_, stamped_erase hs j⟩
    · simp [Builtin.delete_, run_underlying hT, MapKept.run_getObj_map hb, run_checkKey hk (K.isKey k), run_findKey hk g1, MapKept.run_setObj_map _ hb, Result.andThen, World.putObj]
    · rw [← g5]
      congr 1
      have hj : j < arr.size := by simpa using (List.getElem?_eq_some_iff.1 g3).1
      simp [Array.eraseIdxIfInBounds, hj, Array.toList_eraseIdx]
end ops
end
section
open Go.RowKit
def zG8 (c : Int) : Bool := decide (97 ≤ c) && decide (c ≤ 122)
def zDk (c : Int) : Bool := zG8 c || (decide (48 ≤ c) && decide (c ≤ 57)) || c == 46 || c == 45 || c == 95
def zBy (l : List UInt8) : Bool := decide (1 ≤ l.length) && decide (l.length ≤ 64) && l.all fun c => zDk c.toNat
theorem zFz (c : Int) (w : World) :
    Calls Tryz.prog 129 #[.int .u8 c] w fun e w' => e = .returned (.bool (zG8 c)) ∧ w = w' := by
  by_cases h : 97 ≤ c
  · go_enter Tryz.func129, Tryz.ntmps129
    go_wp2
    go_ret
    exact ⟨zDz (by rw [zG8, decide_eq_true h, Bool.true_and]), rfl⟩
  · have hb : zG8 c = false := by simp [zG8]; omega
    go_enter Tryz.func129, Tryz.ntmps129
    go_wp2
    go_ret
    exact ⟨rfl, rfl⟩
theorem all_take_snoc (s : ByteArray) (k : Nat) (h : k < s.size) (p : UInt8 → Bool) : (s.data.toList.take (k + 1)).all p = ((s.data.toList.take k).all p && p s[k]) := by
  rw [List.take_succ_eq_append_getElem (by simpa using h), List.all_append]; simp only [List.all_cons, List.all_nil, Bool.and_true]
  rfl
theorem all_false_of {l : List UInt8} {p : UInt8 → Bool} {k : Nat} (h : k < l.length) (hp : p l[k] = false) : l.all p = false := by
  rw [List.all_eq_false]; exact ⟨l[k], List.getElem_mem h, by simp [hp]⟩
set_option maxHeartbeats 800000 in
theorem valid_any (s : ByteArray) (w : World) :
    Calls Tryz.prog 89 #[.string s] w fun e w' => e = .returned (.bool (zBy s.data.toList)) ∧ w = w' := by
  by_cases h : 1 ≤ s.size
  · by_cases h2 : s.size ≤ 64
    · go_enter Tryz.func89, Tryz.ntmps89
      go_wp2
      go_loop [15] (fun i => ∃ k : Nat, k ≤ s.size ∧ i = .int .i64 k ∧ (s.data.toList.take k).all (fun c => zDk c.toNat) = true) (fun i => s.size - (intOf i).toNat)
      case atStart => exact ⟨0, Nat.zero_le _, rfl, rfl⟩
      case round =>
        obtain ⟨k, hk, rfl, hall⟩ := hrel; have Hall := Lib.hid hall; clear hall
        by_cases hlt : k < s.size
        · have hstep := all_take_snoc s k hlt (fun c => zDk c.toNat)
          have Hs := Lib.hid hstep; clear hstep
          have hkl : k < s.data.toList.length := by simpa using hlt
          have hget : s.data.toList[k] = s[k] := by rw [Array.getElem_toList]; rfl
          have Hg := Lib.hid hget; clear hget
          have hgo : zDk (s[k].toNat : Int) = true → ((s.data.toList.take (k + 1)).all fun c => zDk c.toNat) = true := fun h => by rw [Hs.out, Hall.out, h]; rfl
          have hno : zDk (s[k].toNat : Int) = false → zBy s.data.toList = false := fun h => by
            have := all_false_of (p := fun c => zDk c.toNat) hkl (by rw [Hg.out]; exact h)
            simp [zBy, this]
          cases hs : zG8 (s[k].toNat : Int) with
          | true =>
            have hn : zDk (s[k].toNat : Int) = true := by simp [zDk, hs]
            have h1 := hgo hn; clear hgo hno hn; have H1 := Lib.hid h1; clear h1
            go_wp2_with (go_at_call 129; refine (zFz _ _).mono ?_; rintro e w' ⟨rfl, rfl⟩)
            go_round
            case rel => exact ⟨k + 1, by omega, by go_num, H1.out⟩
            case measure => simp [intOf]; omega
          | false =>
            rcases (by omega : s[k].toNat = 46 ∨ s[k].toNat = 45 ∨ s[k].toNat = 95 ∨ (48 ≤ s[k].toNat ∧ s[k].toNat ≤ 57) ∨ (s[k].toNat ≠ 46 ∧ s[k].toNat ≠ 45 ∧ s[k].toNat ≠ 95 ∧ (s[k].toNat < 48 ∨ 57 < s[k].toNat))) with hc | hc | hc | hc | hc
            · have b46 : ((s[k].toNat : Int) != 46) = false := by rw [bne_eq_false_iff_eq]; omega
              have b45 : ((s[k].toNat : Int) != 45) = true := by rw [bne_iff_ne]; omega
              have b95 : ((s[k].toNat : Int) != 95) = true := by rw [bne_iff_ne]; omega
              have hn : zDk (s[k].toNat : Int) = true := by simp [zDk]; omega
              have h1 := hgo hn; clear hgo hno hn; have H1 := Lib.hid h1; clear h1
              have hlo : (0 : Int) ≤ (s[k].toNat : Int) := by omega
              have hlt48 : (s[k].toNat : Int) < 48 := by omega
              clear hc
              go_wp2_with (go_at_call 129; refine (zFz _ _).mono ?_; rintro e w' ⟨rfl, rfl⟩)
              all_goals
                go_round
                case rel => exact ⟨k + 1, by omega, by go_num, H1.out⟩
                case measure => simp [intOf]; omega
            · have b46 : ((s[k].toNat : Int) != 46) = true := by rw [bne_iff_ne]; omega
              have b45 : ((s[k].toNat : Int) != 45) = false := by rw [bne_eq_false_iff_eq]; omega
              have b95 : ((s[k].toNat : Int) != 95) = true := by rw [bne_iff_ne]; omega
              have hn : zDk (s[k].toNat : Int) = true := by simp [zDk]; omega
              have h1 := hgo hn; clear hgo hno hn; have H1 := Lib.hid h1; clear h1
              have hlo : (0 : Int) ≤ (s[k].toNat : Int) := by omega
              have hlt48 : (s[k].toNat : Int) < 48 := by omega
              clear hc
              go_wp2_with (go_at_call 129; refine (zFz _ _).mono ?_; rintro e w' ⟨rfl, rfl⟩)
              all_goals
                go_round
                case rel => exact ⟨k + 1, by omega, by go_num, H1.out⟩
                case measure => simp [intOf]; omega
            · have b46 : ((s[k].toNat : Int) != 46) = true := by rw [bne_iff_ne]; omega
              have b45 : ((s[k].toNat : Int) != 45) = true := by rw [bne_iff_ne]; omega
              have b95 : ((s[k].toNat : Int) != 95) = false := by rw [bne_eq_false_iff_eq]; omega
              have hn : zDk (s[k].toNat : Int) = true := by simp [zDk]; omega
              have h1 := hgo hn; clear hgo hno hn; have H1 := Lib.hid h1; clear h1
              have hlo : (0 : Int) ≤ (s[k].toNat : Int) := by omega
              have hlt48 : (s[k].toNat : Int) > 57 := by omega
              clear hc
              go_wp2_with (go_at_call 129; refine (zFz _ _).mono ?_; rintro e w' ⟨rfl, rfl⟩)
              all_goals
                go_round
                case rel => exact ⟨k + 1, by omega, by go_num, H1.out⟩
                case measure => simp [intOf]; omega
            · have b46 : ((s[k].toNat : Int) != 46) = true := by rw [bne_iff_ne]; omega
              have b45 : ((s[k].toNat : Int) != 45) = true := by rw [bne_iff_ne]; omega
              have b95 : ((s[k].toNat : Int) != 95) = true := by rw [bne_iff_ne]; omega
              have hn : zDk (s[k].toNat : Int) = true := by simp [zDk]; omega
              have h1 := hgo hn; clear hgo hno hn; have H1 := Lib.hid h1; clear h1
              have hlo : (0 : Int) ≤ (s[k].toNat : Int) := by omega
              obtain ⟨hc1, hc2⟩ := hc
              go_wp2_with (go_at_call 129; refine (zFz _ _).mono ?_; rintro e w' ⟨rfl, rfl⟩)
              all_goals
                go_round
                case rel => exact ⟨k + 1, by omega, by go_num, H1.out⟩
                case measure => simp [intOf]; omega
            · have b46 : ((s[k].toNat : Int) != 46) = true := by rw [bne_iff_ne]; omega
              have b45 : ((s[k].toNat : Int) != 45) = true := by rw [bne_iff_ne]; omega
              have b95 : ((s[k].toNat : Int) != 95) = true := by rw [bne_iff_ne]; omega
              have hn : zDk (s[k].toNat : Int) = false := by simp [zDk, hs]; omega
              have h1 := hno hn; clear hgo hno hn; have H1 := Lib.hid h1; clear h1; obtain ⟨hc1, hc2, hc3, hc⟩ := hc; clear hc1 hc2 hc3
              rcases hc with hc | hc
              · go_wp2_with (go_at_call 129; refine (zFz _ _).mono ?_; rintro e w' ⟨rfl, rfl⟩)
                go_ret
                exact ⟨zDz H1.out.symm, rfl⟩
              · go_wp2_with (go_at_call 129; refine (zFz _ _).mono ?_; rintro e w' ⟨rfl, rfl⟩)
                go_ret
                exact ⟨zDz H1.out.symm, rfl⟩
        · have hke : k = s.size := by omega
          subst hke
          have hv : zBy s.data.toList = true := by
            have := Hall.out; rw [List.take_of_length_le (by simp)] at this
            simp [zBy, this]; omega
          have Hv := Lib.hid hv; clear hv
          go_wp2
          go_ret
          exact ⟨zDz Hv.out.symm, rfl⟩
    · go_enter Tryz.func89, Tryz.ntmps89
      go_wp2
      go_ret
      exact ⟨zDz (by simp [zBy]; omega), rfl⟩
  · go_enter Tryz.func89, Tryz.ntmps89
    go_wp2
    go_ret
    exact ⟨zDz (by simp [zBy]; omega), rfl⟩
end
section
open Go.RowKit
theorem info_u8 : (Tryz.prog.info? 5).map (fun i => (i.zero, i.size, i.bytes)) = some (some (.int .u8 0), 1, 1) := by kernel_rfl
def NewSeq (w : World) (l : List Value) (e : Ending) (w' : World) : Prop :=
  ∃ v', e = .returned v' ∧ ownV w' v' l ∧ Below w.heap.size w w' ∧ ∀ b, blk v' = some b → w.heap.size ≤ b ∧ b < w'.heap.size
theorem newSeq_of_append {w w' : World} {o : Obj} {v' : Value} {l : List Value} (hv' : ownV w' v' l) (hk : Keeps (fun k => blk (.slice (some ⟨w.heap.size, 0, none⟩) 0 0) = some k) (w.alloc o) w')
    (hb : v' = .slice (some ⟨w.heap.size, 0, none⟩) 0 0 ∧ l = [] ∧ w' = w.alloc o ∨ blk v' = blk (.slice (some ⟨w.heap.size, 0, none⟩) 0 0) ∧ (blk (.slice (some ⟨w.heap.size, 0, none⟩) 0 0)).isSome ∨ blk v' = some (w.heap.size + 1)) :
    NewSeq w l (.returned v') w' := by
  refine ⟨v', rfl, hv', (((Keeps.refl (fun _ => False) w).alloc o).trans' hk fun i hi hi' => ?_).below (Nat.le_refl _) (fun _ _ h => h), fun b h => ⟨?_, hv'.lt b h⟩⟩
  · simp only [blk, Option.some.injEq] at hi'
    omega
  · rcases hb with ⟨rfl, _, _⟩ | ⟨h2, _⟩ | h2
    · simp only [blk, Option.some.injEq] at h; omega
    · rw [h2] at h; simp only [blk, Option.some.injEq] at h; omega
    · rw [h2] at h; simp only [Option.some.injEq] at h; omega
theorem clone_bytes (v : Value) (l : List Value) (w : World) (h : zEs w v l) (h1 : ∀ u ∈ l, u.oneCell' = true) (hl : l.length ≤ 1073741824) :
    Calls Tryz.prog 49 #[v] w (NewSeq w l) := by
  have hsrc := fun (w' : World) (h' : zEs w' v l) => zCr (P := Tryz.prog) zC6 h' h1
  obtain ⟨a, n, c, rfl, hn, hc, ha, hh⟩ := id h; obtain ⟨i0, hi, hz0, hz1, hz2⟩ := info_parts info_u8
  cases a with
  | none =>
    have hc0 := ha rfl; subst hc0; have hl0 : l = [] := List.eq_nil_of_length_eq_zero (by omega); subst hl0
    have hn0 : n = 0 := by simpa using hn
    subst hn0; clear hn hc hh ha hsrc
    have heq := fun w => Lib.run_eql_slice_nil (P := Tryz.prog) w 22 _ none 0 0 0 0 zC6
    go_enter Tryz.func49, Tryz.ntmps49
    go_wp2
    go_ret
    exact ⟨_, rfl, ownV.nil _, Below.refl _ _, fun b hb => by cases hb⟩
  | some a =>
    clear hn hc hh ha
    have heq := fun w => Lib.run_eql_slice_nil (P := Tryz.prog) w 22 _ (some a) n c 0 0 zC6
    go_enter Tryz.func49, Tryz.ntmps49
    have hb0 : Keeps (fun _ => False) w (w.alloc (.cells #[] 5)) := (Keeps.refl _ _).alloc _; have hown : ownV (w.alloc (.cells #[] 5)) (.slice (some ⟨w.heap.size, 0, none⟩) 0 0) [] := ⟨_, 0, 0, rfl, rfl, Nat.le_refl _, ⟨fun _ => rfl, fun b hb => by cases hb; simp⟩, .inl rfl⟩; have hs1 := hsrc _ (h.keep hb0 (fun _ _ => id)); clear hsrc h
    go_wp2_with (at_builtin; refine wpList_append_any rfl _ _ _ _ rfl zC6 hi hz0 hz1 rfl rfl rfl hown hs1 ?_ ?_ ?_)
    · simp [hz2]; omega
    · simp; omega
    intro v' w' hv' hk hb hnil
    go_wp2
    go_ret
    exact newSeq_of_append (by simpa using hv') hk hb
end
section
open Go.RowKit
def gidx : Nat → Nat
  | 101 => 11
  | 102 => 4
  | 103 => 1
  | 104 => 6
  | 105 => 0
  | 106 => 5
  | 107 => 3
  | 108 => 8
  | 109 => 10
  | 110 => 7
  | 111 => 12
  | 112 => 9
  | 113 => 2
  | 114 => 13
  | 115 => 14
  | 116 => 15
  | 117 => 16
  | 118 => 17
  | _ => 18
def zAk (ad : Nat → Addr) (c : Nat) : Value := if c = 0 then .nilIface else .iface 286 (.pointer (some (ad c)))
theorem zB (ad : Nat → Addr) : zAk ad 0 = .nilIface := rfl
theorem zEo (ad : Nat → Addr) {c : Nat} (h : c ≠ 0) : zAk ad c = .iface 286 (.pointer (some (ad c))) := by simp [zAk, h]
structure Errs (L : List Nat) (ad : Nat → Addr) (B : Nat) (w : World) : Prop where
  pos : ∀ c ∈ L, c ≠ 0
  cell : ∀ c ∈ L, w.cell? ⟨gidx c, 0, none⟩ = some (zAk ad c)
  block : ∀ c ∈ L, ∃ cs E, w.heap[(ad c).block]? = some (.cells cs E (0, 0))
  inj : ∀ c ∈ L, ∀ d ∈ L, ad c = ad d → c = d
  lt : ∀ c ∈ L, gidx c < B ∧ (ad c).block < B
theorem Errs.below {L : List Nat} {ad : Nat → Addr} {B : Nat} {w w' : World} (h : Errs L ad B w) (k : Below B w w') : Errs L ad B w' where
  pos := h.pos
  cell c hc := (k.cell (p := ⟨gidx c, 0, none⟩) (h.lt c hc).1).trans (h.cell c hc)
  block c hc := by obtain ⟨cs, E, hb⟩ := h.block c hc; exact ⟨cs, E, (k.block _ (h.lt c hc).2).trans hb⟩
  inj := h.inj
  lt := h.lt
theorem Errs.mono {L : List Nat} {ad : Nat → Addr} {B B' : Nat} {w : World} (h : Errs L ad B w) (hB : B ≤ B') : Errs L ad B' w :=
  ⟨h.pos, h.cell, h.block, h.inj, fun c hc => ⟨Nat.lt_of_lt_of_le (h.lt c hc).1 hB, Nat.lt_of_lt_of_le (h.lt c hc).2 hB⟩⟩
theorem Errs.keep {L : List Nat} {ad : Nat → Addr} {B : Nat} {F : Nat → Prop} {w w' : World} (h : Errs L ad B w) (k : Keeps F w w') (hB : B ≤ w.heap.size) (hF : ∀ i, i < B → ¬ F i) : Errs L ad B w' := h.below (k.below hB hF)
theorem comp_err : (Tryz.prog.info? 286).map (·.comparable) = some true := by kernel_rfl
theorem size_err : (Tryz.prog.info? 303).map (·.size) = some 1 := by kernel_rfl
theorem info_err : (Tryz.prog.info? 27).map (fun i => (i.zero, i.size, i.bytes)) = some (some .nilIface, 1, 16) := by kernel_rfl
theorem run_eql_errs {L : List Nat} {ad : Nat → Addr} {B : Nat} {w : World} (h : Errs L ad B w) {c d : Nat} (hc : c ∈ L) (hd : d ∈ L) :
    (binOp .eql 27 (.iface 286 (.pointer (some (ad c)))) (.iface 286 (.pointer (some (ad d))))).run Tryz.prog w = .ok (.bool (c == d)) w := by
  obtain ⟨i, hi, hcomp⟩ := Option.map_eq_some_iff.1 comp_err; obtain ⟨j, hj, hsz⟩ := Option.map_eq_some_iff.1 size_err
  by_cases e : c = d
  · subst e
    rw [run_eql_iface_ptr_same w (ad c) zCq uz286 hi hcomp hj]
    simp
  · obtain ⟨ca, ta, ha⟩ := h.block c hc
    obtain ⟨cb, tb, hb⟩ := h.block d hd; rw [run_eql_iface_ptr_other w zCq uz286 hi hcomp hj (by omega) (fun q => e (h.inj c hc d hd q)) ha hb]
    simp [e]
theorem alike_any {L : List Nat} {ad : Nat → Addr} {B : Nat} {w : World} (h : Errs L ad B w) {c d : Nat} (hc : c ∈ L) (hd : d ∈ L) :
    Calls Tryz.prog 151 #[.iface 286 (.pointer (some (ad c))), .iface 286 (.pointer (some (ad d)))] w fun e w' => e = .returned (.bool (c == d)) ∧ w = w' := by
  have hr := run_eql_errs h hc hd; clear h
  go_enter Tryz.func151, Tryz.ntmps151
  go_wp2
  go_ret
  exact ⟨rfl, rfl⟩
def allCodes : List Nat := [101, 102, 103, 104, 105, 106, 107, 108, 109, 110, 111, 112, 113, 114, 115, 116, 117, 118, 119]
def SentPost (ad : Nat → Addr) (w : World) (e : Ending) (w' : World) : Prop :=
  e = .returned (.slice (some ⟨w.heap.size, 0, none⟩) 19 19) ∧ w' = w.alloc (.cells (allCodes.map (zAk ad)).toArray 27)
theorem sentinels_any {ad : Nat → Addr} {B : Nat} {w : World} (h : Errs allCodes ad B w) :
    Calls Tryz.prog 150 #[] w (SentPost ad w) := by
  have e1 := h.cell 101 (by decide); have e2 := h.cell 102 (by decide); have e3 := h.cell 103 (by decide); have e4 := h.cell 104 (by decide); have e5 := h.cell 105 (by decide); have e6 := h.cell 106 (by decide); have e7 := h.cell 107 (by decide); have e8 := h.cell 108 (by decide); have e9 := h.cell 109 (by decide); have e10 := h.cell 110 (by decide); have e11 := h.cell 111 (by decide); have e12 := h.cell 112 (by decide); have e13 := h.cell 113 (by decide); have e14 := h.cell 114 (by decide); have e15 := h.cell 115 (by decide); have e16 := h.cell 116 (by decide); have e17 := h.cell 117 (by decide); have e18 := h.cell 118 (by decide); have e19 := h.cell 119 (by decide)
  simp only [gidx] at e1 e2 e3 e4 e5 e6 e7 e8 e9 e10 e11 e12 e13 e14 e15 e16 e17 e18 e19; clear h; obtain ⟨i0, hi, hz0, hz1, hz2⟩ := info_parts info_err
  go_enter Tryz.func150, Tryz.ntmps150
  go_wp2_with (refine wpList_buildSeq rfl _ _ _ rfl uz226 hi hz0 hz1 (allCodes.map (zAk ad)) rfl ?_ rfl (by decide) (by decide) ?_)
  · intro u hu
    obtain ⟨c, _, rfl⟩ := List.mem_map.1 hu
    unfold zAk; split <;> rfl
  go_wp2
  go_ret
  exact ⟨rfl, rfl⟩
end
section
open Go.RowKit
def IntNew (n : Int) (w : World) (e : Ending) (w' : World) : Prop := e = .returned (.int .i64 n) ∧ Below w.heap.size w w'
def BoolNew (b : Bool) (w : World) (e : Ending) (w' : World) : Prop := e = .returned (.bool b) ∧ Below w.heap.size w w'
def FaultNew (c : Int) (p : Bool) (q : Int) (w : World) (e : Ending) (w' : World) : Prop := e = .returned (.agg #[.int .i64 c, .bool p, .int .i64 q]) ∧ Below w.heap.size w w'
theorem sentinel_any {ad : Nat → Addr} {B : Nat} {w : World} (h : Errs allCodes ad B w) (hB : B ≤ w.heap.size) {c : Nat} (hc : c ∈ allCodes) :
    Calls Tryz.prog 103 #[.iface 286 (.pointer (some (ad c)))] w (IntNew c w) := by
  have hcr : 101 ≤ c ∧ c ≤ 119 := by simp only [allCodes, List.mem_cons, List.not_mem_nil, or_false] at hc; omega
  have hw1 : Errs allCodes ad B (w.alloc (.cells (allCodes.map (zAk ad)).toArray 27)) := h.below ((Below.refl B w).alloc hB _)
  have hcell : ∀ k, k < 19 → (w.alloc (.cells (allCodes.map (zAk ad)).toArray 27)).cell? ⟨w.heap.size, k, none⟩ = some (.iface 286 (.pointer (some (ad (101 + k))))) := by
    intro k hk; refine zCc (World.alloc_heap_new w _) ?_; rw [List.getElem?_toArray, List.getElem?_map]
    have : allCodes[k]? = some (101 + k) := by
      rcases (by omega : k = 0 ∨ k = 1 ∨ k = 2 ∨ k = 3 ∨ k = 4 ∨ k = 5 ∨ k = 6 ∨ k = 7 ∨ k = 8 ∨ k = 9 ∨ k = 10 ∨ k = 11 ∨ k = 12 ∨ k = 13 ∨ k = 14 ∨ k = 15 ∨ k = 16 ∨ k = 17 ∨ k = 18) with e | e | e | e | e | e | e | e | e | e | e | e | e | e | e | e | e | e | e <;> (subst e; rfl)
    rw [this, Option.map_some, zEo ad (by omega)]
  have hbel : Below w.heap.size w (w.alloc (.cells (allCodes.map (zAk ad)).toArray 27)) := (Below.refl _ w).alloc (Nat.le_refl _) _; generalize hw' : w.alloc (.cells (allCodes.map (zAk ad)).toArray 27) = W at *; have Hw := Lib.hid hw'; clear hw'; have H := Lib.hid h; clear h; have Hcell := Lib.hid hcell; clear hcell
  go_enter Tryz.func103, Tryz.ntmps103
  go_wp2_with (go_at_call 150; refine (sentinels_any H.out).mono ?_; rintro e w' ⟨rfl, rfl⟩; rw [Hw.out])
  go_loop [4] (fun i => ∃ k : Nat, 101 + k ≤ c ∧ i = .int .i64 k) (fun i => 19 - (intOf i).toNat)
  case atStart => exact ⟨0, by omega, rfl⟩
  case round =>
    obtain ⟨k, hk, rfl⟩ := hrel
    have hk19 : k < 19 := by omega
    have hck := Hcell.out k hk19
    have hkm : 101 + k ∈ allCodes := by
      simp only [allCodes, List.mem_cons, List.not_mem_nil, or_false]; omega
    by_cases he : c = 101 + k
    · have hb : (c == 101 + k) = true := by simp [he]
      have Hb := Lib.hid hb; have He := Lib.hid he; clear hb he
      go_wp2_with (go_at_call 151; refine (alike_any hw1 hc hkm).mono ?_; rintro e w' ⟨rfl, rfl⟩; rw [Hb.out])
      go_ret
      exact ⟨ret_int (by rw [He.out]; simp), hbel⟩
    · have hb : (c == 101 + k) = false := by simp [he]
      have Hb := Lib.hid hb
      have hlt : 101 + (k + 1) ≤ c := by omega
      clear hb he
      go_wp2_with (go_at_call 151; refine (alike_any hw1 hc hkm).mono ?_; rintro e w' ⟨rfl, rfl⟩; rw [Hb.out])
      go_round
      case rel => exact ⟨k + 1, hlt, by go_num⟩
      case measure => simp [intOf]; omega
theorem bare_any (c : Int) (w : World) : Calls Tryz.prog 24 #[.int .i64 c] w (FaultNew c false 0 w) := by
  go_enter Tryz.func24, Tryz.ntmps24
  go_wp2
  exact bodyPost_ret (v := .agg #[.int .i64 c, .bool false, .int .i64 0]) (by simp [results, Tryz.results24, go_sem]) rfl ⟨rfl, (Below.refl _ _).alloc (Nat.le_refl _) _⟩
theorem none_any (w : World) : Calls Tryz.prog 22 #[] w (FaultNew 0 false 0 w) := by
  go_enter Tryz.func22, Tryz.ntmps22
  go_wp2
  exact bodyPost_ret (v := .agg #[.int .i64 0, .bool false, .int .i64 0]) (by simp [results, Tryz.results22, go_sem]) rfl ⟨rfl, (Below.refl _ _).alloc (Nat.le_refl _) _⟩
theorem sameFault_any (c d : Int) (p q : Bool) (x y : Int) (w : World) : Calls Tryz.prog 61 #[.agg #[.int .i64 c, .bool p, .int .i64 x], .agg #[.int .i64 d, .bool q, .int .i64 y]] w (BoolNew (c == d && (p == q && x == y)) w) := by
  have hbel : ∀ o o', Below w.heap.size w ((w.alloc o).alloc o') := fun o o' => ((Below.refl _ _).alloc (Nat.le_refl _) _).alloc (by simp) _
  have Hb := Lib.hid hbel; clear hbel
  cases hb : (c == d)
  · go_enter Tryz.func61, Tryz.ntmps61
    go_wp2
    go_ret
    exact ⟨rfl, Hb.out _ _⟩
  · cases hb2 : (p == q)
    · go_enter Tryz.func61, Tryz.ntmps61
      go_wp2
      go_ret
      exact ⟨rfl, Hb.out _ _⟩
    · go_enter Tryz.func61, Tryz.ntmps61
      go_wp2
      go_ret
      exact ⟨rfl, Hb.out _ _⟩
theorem agg_fault (w : World) : (isAgg 42).run Tryz.prog w = .ok true w := by kernel_rfl
theorem size_fault (vs : Array Value) (h : vs.size = 3) : (Tryz.prog.info? 42).map (·.size) = some vs.size := by rw [h]; kernel_rfl
theorem fault_nil (w : World) : Calls Tryz.prog 62 #[.nilIface] w (FaultNew 0 false 0 w) := by
  go_enter Tryz.func62, Tryz.ntmps62
  go_wp2_with (first
    | (go_at_call 22; refine (none_any _).mono ?_; rintro e w' ⟨rfl, hb⟩; have hblk := (hb.block w.heap.size (by simp)).trans (World.alloc_heap_new w _); have H := Lib.hid hblk; have HB := Lib.hid hb; clear hblk hb)
    | (refine zE4 rfl _ _ _ rfl w.heap.size _ rfl rfl H.out (size_fault _ rfl) rfl (by simp [Value.oneCell']) ?_; intro w2 h2 k2 _; have H2 := Lib.hid h2; have K2 := Lib.hid k2; clear h2 k2))
  refine bodyPost_ret (results_row rfl rfl (agg_fault _) (size_fault _ rfl) H2.out) rfl ⟨rfl, ?_⟩
  exact (((Keeps.refl (fun _ => False) w).alloc _).trans' (Keeps.of_below HB.out (fun _ => False)) (fun _ _ h => h)).trans' K2.out (fun i hi h => by omega) |>.below (Nat.le_refl _) (fun _ _ h => h)
set_option maxRecDepth 100000 in
theorem fault_err {ad : Nat → Addr} {B : Nat} {w : World} (h : Errs allCodes ad B w) (hB : B ≤ w.heap.size) {c : Nat} (hc : c ∈ allCodes) :
    Calls Tryz.prog 62 #[.iface 286 (.pointer (some (ad c)))] w (FaultNew c false 0 w) := by
  have h1 : ∀ o, Errs allCodes ad B (w.alloc o) := fun o => h.below ((Below.refl B w).alloc hB _)
  have H1 := Lib.hid h1; clear h1 h
  go_enter Tryz.func62, Tryz.ntmps62
  have hta : ∀ (v : Value) (w : World), (Instr.typeAssert (.iface 286 v) 27 112 true).run Tryz.prog w = .ok (.tuple #[.pointer none, .bool false]) w := fun _ _ => by kernel_rfl
  go_wp2_with (first
    | (go_at_call 103; refine (sentinel_any (H1.out _) (by simp; omega) hc).mono ?_; rintro e w1 ⟨rfl, hb⟩; have hblk := (hb.block w.heap.size (by simp)).trans (World.alloc_heap_new w _); have H := Lib.hid hblk; have HB := Lib.hid hb; clear hblk hb)
    | (go_at_call 24; refine (bare_any _ _).mono ?_; rintro e w3 ⟨rfl, hb⟩; have hblk := (hb.block w.heap.size (lt_of_block H.out)).trans H.out; have H3 := Lib.hid hblk; have HB3 := Lib.hid hb; clear hblk hb)
    | (refine zE4 rfl _ _ _ rfl w.heap.size _ rfl rfl H3.out (size_fault _ rfl) rfl (by simp [Value.oneCell']) ?_; intro w2 h2 k2 _; have H2 := Lib.hid h2; have K2 := Lib.hid k2; clear h2 k2))
  refine bodyPost_ret (results_row rfl rfl (agg_fault _) (size_fault _ rfl) H2.out) rfl ⟨rfl, ?_⟩
  exact ((((Keeps.refl (fun _ => False) w).alloc _).trans' (Keeps.of_below HB.out (fun _ => False)) (fun _ _ h => h)).trans' (Keeps.of_below HB3.out (fun _ => False)) (fun _ _ h => h)).trans' K2.out (fun i hi h => by omega) |>.below (Nat.le_refl _) (fun _ _ h => h)
theorem below2 {w w1 w2 : World} {o : Obj} (hb : Below (w.alloc o).drew.heap.size (w.alloc o).drew w1) (hb2 : Below w1.heap.size w1 w2) : Below w.heap.size w w2 :=
  (((Below.refl _ w).alloc (Nat.le_refl _) o).drew.trans (hb.mono (by simp))).trans (hb2.mono (by have := hb.size; simp at this; omega))
theorem same_nil (c : Int) (w : World) : Calls Tryz.prog 27 #[.nilIface, .agg #[.int .i64 c, .bool false, .int .i64 0]] w (BoolNew (0 == c) w) := by
  go_enter Tryz.func27, Tryz.ntmps27
  go_wp2_with fail
  go_region_held3 (fun w' => w'.cell? ⟨w.heap.size, 0, none⟩ = some (.int .i64 c) ∧ w'.cell? ⟨w.heap.size, 1, none⟩ = some (.bool false) ∧ w'.cell? ⟨w.heap.size, 2, none⟩ = some (.int .i64 0)) (go_keep)
    (first | (go_at_call 62; refine (fault_nil _).mono ?_; rintro e w' ⟨rfl, hb⟩; have k0 := hb.cell (p := ⟨w.heap.size, 0, none⟩) (by simp); have k1 := hb.cell (p := ⟨w.heap.size, 1, none⟩) (by simp); have k2 := hb.cell (p := ⟨w.heap.size, 2, none⟩) (by simp)) | (go_at_call 61; refine (sameFault_any _ _ _ _ _ _ _).mono ?_; rintro e w2 ⟨rfl, hb2⟩; have k0 := hb2.cell (p := ⟨w.heap.size, 0, none⟩) (by have := hb.size; simp at this; show w.heap.size < w'.heap.size; omega); have k1 := hb2.cell (p := ⟨w.heap.size, 1, none⟩) (by have := hb.size; simp at this; show w.heap.size < w'.heap.size; omega); have k2 := hb2.cell (p := ⟨w.heap.size, 2, none⟩) (by have := hb.size; simp at this; show w.heap.size < w'.heap.size; omega)))
  all_goals
    have HB := Lib.hid (below2 hb hb2); clear hb hb2
    go_wp2
    go_ret
    exact ⟨zDz (by simp), HB.out⟩
theorem same_err {ad : Nat → Addr} {B : Nat} {w : World} (h : Errs allCodes ad B w) (hB : B ≤ w.heap.size) {d : Nat} (hd : d ∈ allCodes) (c : Int) :
    Calls Tryz.prog 27 #[.iface 286 (.pointer (some (ad d))), .agg #[.int .i64 c, .bool false, .int .i64 0]] w (BoolNew ((d : Int) == c) w) := by
  have h1 : ∀ o, Errs allCodes ad B (w.alloc o).drew := fun o => h.below ((Below.refl B w).alloc hB _).drew
  have H1 := Lib.hid h1; clear h1 h
  go_enter Tryz.func27, Tryz.ntmps27
  go_wp2_with fail
  go_region_held3 (fun w' => w'.cell? ⟨w.heap.size, 0, none⟩ = some (.int .i64 c) ∧ w'.cell? ⟨w.heap.size, 1, none⟩ = some (.bool false) ∧ w'.cell? ⟨w.heap.size, 2, none⟩ = some (.int .i64 0)) (go_keep)
    (first | (go_at_call 62; refine (fault_err (H1.out _) (by simp; omega) hd).mono ?_; rintro e w' ⟨rfl, hb⟩; have k0 := hb.cell (p := ⟨w.heap.size, 0, none⟩) (by simp); have k1 := hb.cell (p := ⟨w.heap.size, 1, none⟩) (by simp); have k2 := hb.cell (p := ⟨w.heap.size, 2, none⟩) (by simp)) | (go_at_call 61; refine (sameFault_any _ _ _ _ _ _ _).mono ?_; rintro e w2 ⟨rfl, hb2⟩; have k0 := hb2.cell (p := ⟨w.heap.size, 0, none⟩) (by have := hb.size; simp at this; show w.heap.size < w'.heap.size; omega); have k1 := hb2.cell (p := ⟨w.heap.size, 1, none⟩) (by have := hb.size; simp at this; show w.heap.size < w'.heap.size; omega); have k2 := hb2.cell (p := ⟨w.heap.size, 2, none⟩) (by have := hb.size; simp at this; show w.heap.size < w'.heap.size; omega)))
  all_goals
    have HB := Lib.hid (below2 hb hb2); clear hb hb2
    go_wp2
    go_ret
    exact ⟨zDz (by simp), HB.out⟩
theorem is_any {ad : Nat → Addr} {B : Nat} {w : World} (h : Errs allCodes ad B w) (hB : B ≤ w.heap.size) {d : Nat} (hd : d = 0 ∨ d ∈ allCodes) (c : Int) :
    Calls Tryz.prog 34 #[zAk ad d, .int .i64 c] w (BoolNew ((d : Int) == c) w) := by
  rcases hd with rfl | hd
  · rw [zB]
    clear h
    go_enter Tryz.func34, Tryz.ntmps34
    go_wp2_with (first
      | (go_at_call 24; refine (bare_any _ _).mono ?_; rintro e w1 ⟨rfl, hb1⟩; have HB1 := Lib.hid hb1; clear hb1)
      | (go_at_call 27; refine (same_nil _ _).mono ?_; rintro e w2 ⟨rfl, hb2⟩; have HB2 := Lib.hid hb2; clear hb2))
    go_ret
    exact ⟨rfl, HB1.out.trans (HB2.out.mono HB1.out.size)⟩
  · rw [zEo ad (h.pos d hd)]
    have H := Lib.hid h; clear h
    go_enter Tryz.func34, Tryz.ntmps34
    go_wp2_with (first
      | (go_at_call 24; refine (bare_any _ _).mono ?_; rintro e w1 ⟨rfl, hb1⟩; have HB1 := Lib.hid hb1; clear hb1)
      | (go_at_call 27; refine (same_err (H.out.below (HB1.out.mono hB)) (Nat.le_trans hB HB1.out.size) hd _).mono ?_; rintro e w2 ⟨rfl, hb2⟩; have HB2 := Lib.hid hb2; clear hb2))
    go_ret
    exact ⟨rfl, HB1.out.trans (HB2.out.mono HB1.out.size)⟩
end
section
open Go.RowKit
def zAn (l : List UInt8) : List Value := l.map u8v
def zCz (l : List Int) : List Value := l.map (Value.int .i64)
theorem zCd (l : List UInt8) : ∀ u ∈ zAn l, u.oneCell' = true := by
  intro u hu; obtain ⟨x, _, rfl⟩ := List.mem_map.1 hu; rfl
theorem intsL_one (l : List Int) : ∀ u ∈ zCz l, u.oneCell' = true := by
  intro u hu; obtain ⟨x, _, rfl⟩ := List.mem_map.1 hu; rfl
theorem zDm {κ α : Type} [DecidableEq κ] {l : List (κ × α)} {k : κ} {v : α} (h : zAx l k = some v) : zC1 l k v = l := by
  induction l with
  | nil => simp [zAx] at h
  | cons x l ih =>
    obtain ⟨k', v'⟩ := x; simp only [zAx] at h; simp only [zC1]
    split
    · rename_i e; rw [if_pos e] at h; cases h; rw [e]
    · rename_i e; rw [if_neg e] at h; rw [ih h]
end
section
open Go.RowKit
abbrev Env := Nat → Value
def upd (ρ : Env) (d : Nat) (v : Value) : Env := fun t => bif Nat.beq t d then v else ρ t
def updo (ρ : Env) : Option Nat → Value → Env
  | some d, v => upd ρ d v
  | none, _ => ρ
def ev (ρ : Env) : Operand → Value
  | .tmp t => ρ t
  | .const v => v
  | .global g => .pointer (some ⟨g, 0, none⟩)
  | .func f => .func (.func f) #[] #[]
structure Agree (n : Nat) (a : Act) (ρ : Env) : Prop where
  size : a.tmps.size = n
  defers : a.defers = []
  get : ∀ t, a.tmps.getD t undef = ρ t
theorem Agree.eval {n : Nat} {a : Act} {ρ : Env} (h : Agree n a ρ) : a.eval = ev ρ := by
  funext x; cases x <;> simp only [Act.eval, ev, ← h.get]
def okd (n : Nat) : Option Nat → Bool
  | some d => Nat.blt d n
  | none => true
theorem upd_same (ρ : Env) (d : Nat) (v : Value) : upd ρ d v d = v := by simp [upd]
theorem upd_other {ρ : Env} {d t : Nat} {v : Value} (h : t ≠ d) : upd ρ d v t = ρ t := by
  have : Nat.beq t d = false := by cases hb : Nat.beq t d with
    | false => rfl
    | true => exact absurd (Nat.eq_of_beq_eq_true hb) h
  simp [upd, this]
theorem Agree.put {n : Nat} {a : Act} {ρ : Env} (h : Agree n a ρ) {d : Option Nat} (hd : okd n d = true) (v : Value) : Agree n (a.put d v) (updo ρ d v) := by
  cases d with
  | none => exact h
  | some d =>
    have hlt : d < n := by simpa [okd] using hd
    refine ⟨by simp [Act.put, h.size], h.defers, fun t => ?_⟩
    by_cases e : t = d
    · subst e
      show (a.tmps.setIfInBounds t v).getD t undef = upd ρ t v t
      rw [upd_same]
      simp [Array.getD_eq_getD_getElem?, h.size, hlt]
    · show (a.tmps.setIfInBounds d v).getD t undef = upd ρ d v t
      rw [upd_other e, ← h.get, Array.getD_eq_getD_getElem?, Array.getD_eq_getD_getElem?, Array.getElem?_setIfInBounds_ne (Ne.symm e)]
theorem Agree.slot {n : Nat} {a : Act} {ρ : Env} (h : Agree n a ρ) {d : Nat} {b : Bool} (hv : ρ d = .bool b) : a.tmps[d]? = some (.bool b) := by
  have := h.get d; rw [hv, Array.getD_eq_getD_getElem?] at this
  cases hc : a.tmps[d]? with
  | none => rw [hc] at this; simp [undef] at this
  | some v => rw [hc] at this; simpa using this
theorem Agree.slotU {n : Nat} {a : Act} {ρ : Env} (h : Agree n a ρ) {d : Nat} (hv : ρ d = undef) (b : Bool) : a.tmps[d]? ≠ some (.bool b) := by
  intro hc; have := h.get d; rw [hv, Array.getD_eq_getD_getElem?, hc] at this
  simp [undef] at this
section
variable {P : Program} {n : Nat}
def lq (n : Nat) (K : Env → World → Prop) : Exit → Act → World → Prop
  | .normal, a, w => ∃ ρ, Agree n a ρ ∧ K ρ w
  | _, _, _ => False
def lw (P : Program) (n : Nat) (ops : Array Oper) (l : List Oper) (K : Env → World → Prop) (ρ : Env) (w : World) : Prop :=
  ∀ a, Agree n a ρ → wpList P ops (lq n K) l a w
section
variable {ops : Array Oper} {rest : List Oper} {K : Env → World → Prop} {ρ : Env} {w : World} {dst : Option Tmp} {op : Op} {ty : TypeId} {pos : String} {aft : Array Edge}
theorem zA6 (h : K ρ w) : lw P n ops [] K ρ w := fun _ ha => wpList_nil ⟨ρ, ha, h⟩
theorem zA (hd : okd n dst = true) {v : Value} {w' : World} (hr : (execOp (ev ρ) ⟨dst, op, ty, pos, aft, none⟩).run P w = .ok (.value v) w') (h : lw P n ops rest K (updo ρ dst v) w') :
    lw P n ops (⟨dst, op, ty, pos, aft, none⟩ :: rest) K ρ w := fun a ha =>
  wpList_run rfl (by rw [ha.eval]; exact hr) (h _ (ha.put hd v))
theorem lw_skip (hd : okd n dst = true) {w' : World} (hr : (execOp (ev ρ) ⟨dst, op, ty, pos, aft, none⟩).run P w = .ok .skip w') (h : lw P n ops rest K (updo ρ dst undef) w') :
    lw P n ops (⟨dst, op, ty, pos, aft, none⟩ :: rest) K ρ w := fun a ha =>
  wpList_skips rfl (by rw [ha.eval]; exact hr) (h _ (ha.put hd undef))
theorem lw_enter (hd : okd n dst = true) {f : FuncId} {args : Array Value} {R : Value → World → Prop} (hr : (execOp (ev ρ) ⟨dst, op, ty, pos, aft, none⟩).run P w = .ok (.enter f args) w)
    (hc : Calls P f args w fun e w' => ∃ v, e = .returned v ∧ R v w') (h : ∀ v w', R v w' → lw P n ops rest K (updo ρ dst v) w') :
    lw P n ops (⟨dst, op, ty, pos, aft, none⟩ :: rest) K ρ w := fun a ha => by
  refine wpList_plain rfl fun K' hK => ?_
  unfold Oper.wp
  rw [ha.eval, hr, Oper.upon_enter]; refine hc.mono ?_; rintro e w2 ⟨v, rfl, hs⟩; exact hK _ _ (h v w2 hs _ (ha.put hd v))
theorem wanted_of {a : Act} (ha : Agree n a ρ) {j d : Nat} {b : Bool} (hj : (ops[j]?).bind (·.dst) = some d) (hv : ρ d = .bool b) : Region.wanted ⟨dst, op, ty, pos, aft, some (j, b)⟩ (yielded ops a.tmps) = true := by
  simp [Region.wanted, yielded, hj, ha.slot hv]
theorem unwanted_of {a : Act} (ha : Agree n a ρ) {j d : Nat} {b : Bool} (hj : (ops[j]?).bind (·.dst) = some d) (hv : ρ d = .bool (!b) ∨ ρ d = undef) : Region.wanted ⟨dst, op, ty, pos, aft, some (j, b)⟩ (yielded ops a.tmps) = false := by
  rcases hv with hv | hv
  · cases b <;> simp [Region.wanted, yielded, hj, ha.slot hv]
  · have h1 := ha.slotU hv b
    cases hc : a.tmps[d]? with
    | none => simp [Region.wanted, yielded, hj, hc]
    | some v =>
      rw [hc] at h1
      cases v <;> simp_all [Region.wanted, yielded]
theorem zAl {j d : Nat} {b t : Bool} (hj : (ops[j]?).bind (·.dst) = some d) (hv : ρ d = .bool t) (ht : t = b) (h : lw P n ops (⟨dst, op, ty, pos, aft, none⟩ :: rest) K ρ w) :
    lw P n ops (⟨dst, op, ty, pos, aft, some (j, b)⟩ :: rest) K ρ w := fun a ha => by
  subst ht; have := h a ha
  unfold wpList at this ⊢
  rw [if_pos (wanted_of ha hj hv)]; rw [if_pos (by simp [Region.wanted])] at this; exact this
theorem zAb (hd : okd n dst = true) {j d : Nat} {b t : Bool} (hj : (ops[j]?).bind (·.dst) = some d) (hv : ρ d = .bool t) (ht : t = !b) (h : lw P n ops rest K (updo ρ dst undef) w) :
    lw P n ops (⟨dst, op, ty, pos, aft, some (j, b)⟩ :: rest) K ρ w := fun a ha => by
  subst ht
  unfold wpList
  rw [if_neg (by rw [unwanted_of ha hj (.inl hv)]; simp)]; exact h _ (ha.put hd _)
theorem lw_offU (hd : okd n dst = true) {j d : Nat} {b : Bool} (hj : (ops[j]?).bind (·.dst) = some d) (hv : ρ d = undef) (h : lw P n ops rest K (updo ρ dst undef) w) :
    lw P n ops (⟨dst, op, ty, pos, aft, some (j, b)⟩ :: rest) K ρ w := fun a ha => by
  unfold wpList
  rw [if_neg (by rw [unwanted_of ha hj (.inr hv)]; simp)]; exact h _ (ha.put hd _)
end
abbrev Post := Env → World → Prop
def toB : List (Nat × Post) → Nat → Option Post
  | [], _ => none
  | (j, N) :: l, i => bif Nat.beq j i then some N else toB l i
def cq (n : Nat) (N : Post) (B : List (Nat × Post)) (R : Post) : Exit → Act → World → Prop
  | .normal, a, w => ∃ ρ, Agree n a ρ ∧ N ρ w
  | .exit i, a, w => ∃ ρ, Agree n a ρ ∧ ∃ K, toB B i = some K ∧ K ρ w
  | .ret, a, w => ∃ ρ, Agree n a ρ ∧ R ρ w
  | _, _, _ => False
def cw (P : Program) (n : Nat) (c : Code) (N : Post) (B : List (Nat × Post)) (R : Post) (ρ : Env) (w : World) : Prop := ∀ a, Agree n a ρ → c.wp P (cq n N B R) a w
section
variable {N R : Post} {B : List (Nat × Post)} {ρ : Env} {w : World}
theorem cw_mono {c : Code} {N' R' : Post} {B' : List (Nat × Post)} (h : cw P n c N' B' R' ρ w) (h1 : ∀ ρ w, N' ρ w → N ρ w) (h2 : ∀ i K ρ w, toB B' i = some K → K ρ w → ∃ K', toB B i = some K' ∧ K' ρ w) (h3 : ∀ ρ w, R' ρ w → R ρ w) : cw P n c N B R ρ w := fun a ha => by
  refine wp_mono (h a ha) ?_; intro e a w q
  cases e with
  | normal => obtain ⟨ρ', ha', q⟩ := q; exact ⟨ρ', ha', h1 _ _ q⟩
  | exit i => obtain ⟨ρ', ha', K, hK, q⟩ := q; exact ⟨ρ', ha', h2 i K _ _ hK q⟩
  | ret => obtain ⟨ρ', ha', q⟩ := q; exact ⟨ρ', ha', h3 _ _ q⟩
  | _ => exact q
theorem zA4 {x y : Code} (h : cw P n x (fun ρ w => cw P n y N B R ρ w) B R ρ w) : cw P n (.seq x y) N B R ρ w := fun a ha => by
  refine wp_seq (wp_mono (h a ha) ?_); intro e a w q
  cases e with
  | normal => obtain ⟨ρ', ha', q⟩ := q; exact q a ha'
  | exit i => exact q
  | goto l => exact q
  | ret => exact q
  | panic c => exact q
  | outgrown => exact q
theorem zAd (h : N ρ w) : cw P n .skip N B R ρ w := fun a ha => wp_skip ⟨ρ, ha, h⟩
theorem zAe (h : R ρ w) : cw P n .ret N B R ρ w := fun a ha => wp_ret ⟨ρ, ha, h⟩
theorem zBm {i : Nat} {K : Post} (hK : toB B i = some K) (h : K ρ w) : cw P n (.exit i) N B R ρ w := fun a ha => wp_exit ⟨ρ, ha, K, hK, h⟩
theorem zAp {i : Nat} {c : Code} (h : cw P n c N ((i, N) :: B) R ρ w) : cw P n (.block i c) N B R ρ w := fun a ha => by
  refine wp_block (wp_mono (h a ha) ?_); intro e a w q
  cases e with
  | normal => exact q
  | exit j =>
    obtain ⟨ρ', ha', K, hK, q⟩ := q
    by_cases e : j = i
    · subst e
      simp only [Exit.inBlock, if_true]
      have : toB ((j, N) :: B) j = some N := by simp [toB]
      rw [this] at hK
      cases hK
      exact ⟨ρ', ha', q⟩
    · simp only [Exit.inBlock, e, if_false]
      have hb : Nat.beq i j = false := by cases hb : Nat.beq i j with
        | false => rfl
        | true => exact absurd (Nat.eq_of_beq_eq_true hb).symm e
      simp only [toB, hb, cond_false] at hK; exact ⟨ρ', ha', K, hK, q⟩
  | goto l => exact q
  | ret => exact q
  | panic c => exact q
  | outgrown => exact q
theorem zB2 {c : Operand} {x y : Code} {t : Bool} (hc : ev ρ c = .bool t) (ht : t = true → cw P n x N B R ρ w) (hf : t = false → cw P n y N B R ρ w) : cw P n (.cond c x y) N B R ρ w := fun a ha =>
  wp_cond_split (by rw [ha.eval]; exact hc) (fun h => ht h a ha) (fun h => hf h a ha)
theorem zBc {c : Operand} {x y : Code} {t : Bool} (hc : ev ρ c = .bool t) (ht : t = true) (h : cw P n x N B R ρ w) : cw P n (.cond c x y) N B R ρ w := zB2 hc (fun _ => h) (fun e => by rw [ht] at e; cases e)
theorem zAz {c : Operand} {x y : Code} {t : Bool} (hc : ev ρ c = .bool t) (ht : t = false) (h : cw P n y N B R ρ w) : cw P n (.cond c x y) N B R ρ w := zB2 hc (fun e => by rw [ht] at e; cases e) (fun _ => h)
theorem zA2 {id : Nat} {l : List Oper} (h : lw P n l.toArray l N ρ w) : cw P n (.region id l.toArray false) N B R ρ w := fun a ha => by
  refine wp_mono (wp_region_lit (h a ha)) ?_; intro e a w q
  cases e <;> first | exact q | exact q.elim
theorem cw_join {x y : Code} (J : Post) (h : cw P n x J B R ρ w) (hJ : ∀ ρ w, J ρ w → cw P n y N B R ρ w) : cw P n (.seq x y) N B R ρ w :=
  zA4 (cw_mono h hJ (fun _ K _ _ hK h => ⟨K, hK, h⟩) fun _ _ h => h)
def AllS (ρ : Env) : List (Nat × Value) → Prop
  | [] => True
  | (t, v) :: l => ρ t = v ∧ AllS ρ l
def memN (t : Nat) : List Nat → Bool
  | [] => false
  | d :: l => Nat.beq t d || memN t l
def mix (W : List Nat) (ξ ρ : Env) : Env := fun t => bif memN t W then ξ t else ρ t
def updL (ρ : Env) : List (Nat × Value) → Env
  | [] => ρ
  | (t, v) :: l => upd (updL ρ l) t v
def Out (W : List Nat) (ρ' ρ : Env) : Prop := ∀ t, memN t W = false → ρ' t = ρ t
theorem Out.refl (W : List Nat) (ρ : Env) : Out W ρ ρ := fun _ _ => rfl
theorem Out.mix (W : List Nat) (ξ ρ : Env) : Out W (mix W ξ ρ) ρ := fun t h => by simp [Go.Proofs.YthejaanobeonnaaGreatDoor.mix, h]
theorem Out.upd {W : List Nat} {ρ' ρ : Env} {d : Nat} {v : Value} (hd : memN d W = true) (h : Out W ρ' ρ) : Out W (upd ρ' d v) ρ := fun t ht => by
  have : t ≠ d := fun e => by rw [e, hd] at ht; cases ht
  rw [upd_other this]; exact h t ht
theorem Out.updo {W : List Nat} {ρ' ρ : Env} {d : Option Nat} {v : Value} (hd : (match d with | some d => memN d W | none => true) = true) (h : Out W ρ' ρ) : Out W (updo ρ' d v) ρ := by
  cases d with
  | none => exact h
  | some d => exact Out.upd hd h
theorem env_head {W : List Nat} {ρ' ρ : Env} (hout : Out W ρ' ρ) : ∀ (l : List (Nat × Value)), AllS ρ' l → ∀ t, ρ' t = updL (mix W ρ' ρ) l t
  | [], _, t => by
    show ρ' t = mix W ρ' ρ t
    cases hm : memN t W with
    | true => simp [mix, hm]
    | false => simp [mix, hm, hout t hm]
  | (d, v) :: l, h, t => by
    show ρ' t = upd (updL (mix W ρ' ρ) l) d v t
    by_cases e : t = d
    · subst e; rw [upd_same]; exact h.1
    · rw [upd_other e]; exact env_head hout l h.2 t
theorem zBs {c : Code} {X : Type} (W : List Nat) (slots : X → List (Nat × Value)) (I : X → World → Prop) (μ : X → Nat) (x0 : X) (h0s : AllS ρ (slots x0)) (h0 : I x0 w)
    (hr : ∀ x ξ w, I x w → cw P n c (fun ρ' w' => ∃ x', μ x' < μ x ∧ I x' w' ∧ AllS ρ' (slots x') ∧ Out W ρ' ρ) B R (updL (mix W ξ ρ) (slots x)) w) : cw P n (.loop c) N B R ρ w := by
  intro a ha
  let J : Nat → Act → World → Prop := fun m a w => ∃ x ρ', Agree n a ρ' ∧ μ x ≤ m ∧ I x w ∧ AllS ρ' (slots x) ∧ Out W ρ' ρ
  have hex : ∀ a w, (∃ m, J m a w) → ∃ m, J m a w ∧ ∀ k, k < m → ¬ J k a w := fun a w ⟨m, hm⟩ => by
    induction m using Nat.strongRecOn with
    | _ m ih =>
      by_cases hk : ∃ k, k < m ∧ J k a w
      · obtain ⟨k, hk, hj⟩ := hk; exact ih k hk hj
      · exact ⟨m, hm, fun k hlt hj => hk ⟨k, hlt, hj⟩⟩
  classical
  let M : Act → World → Nat := fun a w => if h : ∃ m, J m a w then Classical.choose (hex a w h) else 0
  have hM : ∀ a w, (∃ m, J m a w) → J (M a w) a w ∧ ∀ k, J k a w → M a w ≤ k := fun a w h => by
    have hs := Classical.choose_spec (hex a w h); simp only [M, dif_pos h]; exact ⟨hs.1, fun k hk => Nat.le_of_not_lt fun hlt => hs.2 k hlt hk⟩
  refine wp_loop (fun a w => ∃ m, J m a w) M ⟨μ x0, x0, ρ, ha, Nat.le_refl _, h0, h0s, Out.refl _ _⟩ ?_; intro a w hJ; obtain ⟨⟨x, ρ', ha', hx, hI, hS, hO⟩, hmin⟩ := hM a w hJ; have hρ : ρ' = updL (mix W ρ' ρ) (slots x) := funext (env_head hO _ hS); refine wp_mono (hr x ρ' w hI a (hρ ▸ ha')) ?_; intro e a2 w2 q
  cases e with
  | normal =>
    obtain ⟨ρ2, ha2, x2, hlt, hI2, hS2, hO2⟩ := q; have hJ2 : J (μ x2) a2 w2 := ⟨x2, ρ2, ha2, Nat.le_refl _, hI2, hS2, hO2⟩; exact ⟨⟨_, hJ2⟩, Nat.lt_of_le_of_lt ((hM a2 w2 ⟨_, hJ2⟩).2 _ hJ2) (Nat.lt_of_lt_of_le hlt hx)⟩
  | exit i => exact q
  | goto l => exact q
  | ret => exact q
  | panic c => exact q
  | outgrown => exact q
end
def envOf (args : Array Value) : Env := fun t => args.getD t undef
theorem agree_enter (args : Array Value) (m : Nat) (h : Nat.ble args.size m = true) : Agree m { tmps := args ++ Array.replicate (m - args.size) undef, defers := [] } (envOf args) := by
  have h' : args.size ≤ m := by simpa using h
  refine ⟨by simp; omega, rfl, fun t => ?_⟩; simp only [envOf, Array.getD_eq_getD_getElem?]
  by_cases hlt : t < args.size
  · rw [Array.getElem?_append_left hlt]
  · rw [Array.getElem?_append_right (by omega), Array.getElem?_eq_none (xs := args) (by omega)]
    by_cases h2 : t - args.size < m - args.size
    · simp [h2]
    · simp [h2]
def ResE (P : Program) (fn : Func) (R : Ending → World → Prop) (ρ : Env) (w : World) : Prop := ∀ a, Agree n a ρ → ∃ v, (results fn a.tmps).run P w = .ok v w ∧ R (.returned v) w
theorem zAh {f : FuncId} {fn : Func} {c : Code} {args : Array Value} {w : World} {R : Ending → World → Prop} (hf : P.funcs[f]? = some fn) (hb : fn.body = some c) (hn : Nat.ble args.size fn.ntmps = true)
    (h : cw P fn.ntmps c (ResE (n := fn.ntmps) P fn R) [] (ResE (n := fn.ntmps) P fn R) (envOf args) w) : Calls P f args w R := by
  refine calls_of_wp hf hb (wp_mono (h _ (agree_enter args fn.ntmps hn)) ?_); intro e a w q
  cases e with
  | normal => obtain ⟨ρ, ha, q⟩ := q; obtain ⟨v, h1, h2⟩ := q a ha; exact ⟨ha.defers, v, h1, h2⟩
  | ret => obtain ⟨ρ, ha, q⟩ := q; obtain ⟨v, h1, h2⟩ := q a ha; exact ⟨ha.defers, v, h1, h2⟩
  | exit i => obtain ⟨ρ, ha, K, hK, q⟩ := q; cases hK
  | goto l => exact q.elim
  | panic c => exact q.elim
  | outgrown => exact q.elim
section
variable {fn : Func} {R : Ending → World → Prop} {ρ : Env} {w : World}
theorem res0 (h : fn.results = #[]) (hR : R (.returned (.tuple #[])) w) : ResE (n := n) P fn R ρ w := fun a _ => ⟨_, results_none h _ _ _, hR⟩
theorem zBi {t : Tmp} (h : fn.results = #[.tmp t]) {v : Value} (hv : ρ t = v) (hR : R (.returned v) w) : ResE (n := n) P fn R ρ w := fun a ha => ⟨_, results_tmp h _ _ _, by rw [ha.get, hv]; exact hR⟩
theorem zEd {t u : Tmp} (h : fn.results = #[.tmp t, .tmp u]) {v v2 : Value} (hv : ρ t = v) (hv2 : ρ u = v2) (hR : R (.returned (.tuple #[v, v2])) w) : ResE (n := n) P fn R ρ w := fun a ha => ⟨_, results_tmp2 h _ _ _, by rw [ha.get, ha.get, hv, hv2]; exact hR⟩
theorem res3 {t u x : Tmp} (h : fn.results = #[.tmp t, .tmp u, .tmp x]) {v v2 v3 : Value} (hv : ρ t = v) (hv2 : ρ u = v2) (hv3 : ρ x = v3) (hR : R (.returned (.tuple #[v, v2, v3])) w) : ResE (n := n) P fn R ρ w := fun a ha =>
  ⟨.tuple #[v, v2, v3], by have h1 := ha.get t; have h2 := ha.get u; have h3 := ha.get x; rw [hv] at h1; rw [hv2] at h2; rw [hv3] at h3; rw [Array.getD_eq_getD_getElem?] at h1 h2 h3; simp [results, h, h1, h2, h3], hR⟩
theorem res4 {t u x y : Tmp} (h : fn.results = #[.tmp t, .tmp u, .tmp x, .tmp y]) {v v2 v3 v4 : Value} (hv : ρ t = v) (hv2 : ρ u = v2) (hv3 : ρ x = v3) (hv4 : ρ y = v4) (hR : R (.returned (.tuple #[v, v2, v3, v4])) w) : ResE (n := n) P fn R ρ w := fun a ha =>
  ⟨.tuple #[v, v2, v3, v4], by have h1 := ha.get t; have h2 := ha.get u; have h3 := ha.get x; have h4 := ha.get y; rw [hv] at h1; rw [hv2] at h2; rw [hv3] at h3; rw [hv4] at h4; rw [Array.getD_eq_getD_getElem?] at h1 h2 h3 h4; simp [results, h, h1, h2, h3, h4], hR⟩
end
def aw (P : Program) (n : Nat) (ops : Array Oper) (S : World → Prop) (fuel : Nat) (listed : Array Bool) (K : Env → World → Prop) (ρ : Env) (w : World) : Prop :=
  ∀ a, Agree n a ρ → wpAnyH P .any ops (lq n K) S fuel listed a w
section
variable {ops : Array Oper} {S : World → Prop} {fuel : Nat} {listed : Array Bool} {K : Env → World → Prop} {ρ : Env} {w : World} {dst : Option Tmp} {op : Op} {ty : TypeId} {pos : String} {aft : Array Edge}
theorem cw_draw {N R : Post} {B : List (Nat × Post)} {id : Nat} {l : List Oper} (S : World → Prop) (hm : P.follows .mixedOrders = true) (h : aw P n l.toArray S l.toArray.size (Array.replicate l.toArray.size false) N ρ w.drew) : cw P n (.region id l.toArray true) N B R ρ w := fun a ha => by
  refine wp_mono (wp_region_held (S := S) hm (h a ha)) ?_; intro e a w q
  cases e <;> first | exact q | exact q.elim
theorem zAs (hr : Region.ready .any ops listed = []) (h : K ρ w) : aw P n ops S fuel listed K ρ w := fun _ ha => wpAnyH_done hr ⟨ρ, ha, h⟩ fuel
theorem zFs (i : Nat) {v : Value} (hi : ops[i]? = some ⟨dst, op, ty, pos, aft, none⟩) (hs : Region.noSelect ops = true) (hf : Region.free .any ops listed i = true) (hr : (Region.ready .any ops listed).contains i = true) (hd : okd n dst = true)
    (hy : ∀ w, S w → (execOp (ev ρ) ⟨dst, op, ty, pos, aft, none⟩).run P w = .ok (.value v) w) (hS : S w) (h : aw P n ops S fuel (listed.setIfInBounds i true) K (updo ρ dst v) w) : aw P n ops S (fuel + 1) listed K ρ w := fun a ha =>
  wpAnyH_take hi hs hf hr (fun _ _ _ h => h) (.inl ⟨rfl, fun w' hw => by rw [ha.eval]; exact hy w' hw⟩) hS (h _ (ha.put hd v))
theorem zA3 (i : Nat) {v : Value} (hi : ops[i]? = some ⟨dst, op, ty, pos, aft, none⟩) (hd : okd n dst = true)
    (hy : ∀ w, S w → (execOp (ev ρ) ⟨dst, op, ty, pos, aft, none⟩).run P w = .ok (.value v) w) (hS : S w) (h : aw P n ops S fuel (listed.setIfInBounds i true) K (updo ρ dst v) w) (hs : Region.noSelect ops = true := by kernel_rfl) (hf : Region.free .any ops listed i = true := by kernel_rfl) (hr : (Region.ready .any ops listed).contains i = true := by kernel_rfl) : aw P n ops S (fuel + 1) listed K ρ w := zFs i hi hs hf hr hd hy hS h
theorem aw_takeOn (i : Nat) {v : Value} {j d : Nat} {b t : Bool} (hi : ops[i]? = some ⟨dst, op, ty, pos, aft, some (j, b)⟩) (hs : Region.noSelect ops = true) (hf : Region.free .any ops listed i = true) (hr : (Region.ready .any ops listed).contains i = true) (hd : okd n dst = true)
    (hj : (ops[j]?).bind (·.dst) = some d) (hv : ρ d = .bool t) (ht : t = b)
    (hy : ∀ w, S w → (execOp (ev ρ) ⟨dst, op, ty, pos, aft, none⟩).run P w = .ok (.value v) w) (hS : S w) (h : aw P n ops S fuel (listed.setIfInBounds i true) K (updo ρ dst v) w) : aw P n ops S (fuel + 1) listed K ρ w := fun a ha => by
  subst ht; exact wpAnyH_take hi hs hf hr (fun _ _ _ h => h) (.inl ⟨wanted_of ha hj hv, fun w' hw => by rw [ha.eval]; exact hy w' hw⟩) hS (h _ (ha.put hd v))
theorem zAi (i : Nat) {v : Value} {j d : Nat} {b t : Bool} (hi : ops[i]? = some ⟨dst, op, ty, pos, aft, some (j, b)⟩) (hd : okd n dst = true)
    (hj : (ops[j]?).bind (·.dst) = some d) (hv : ρ d = .bool t) (ht : t = b)
    (hy : ∀ w, S w → (execOp (ev ρ) ⟨dst, op, ty, pos, aft, none⟩).run P w = .ok (.value v) w) (hS : S w) (h : aw P n ops S fuel (listed.setIfInBounds i true) K (updo ρ dst v) w) (hs : Region.noSelect ops = true := by kernel_rfl) (hf : Region.free .any ops listed i = true := by kernel_rfl) (hr : (Region.ready .any ops listed).contains i = true := by kernel_rfl) : aw P n ops S (fuel + 1) listed K ρ w := aw_takeOn i hi hs hf hr hd hj hv ht hy hS h
theorem aw_takeOff (i : Nat) {j d : Nat} {b t : Bool} (hi : ops[i]? = some ⟨dst, op, ty, pos, aft, some (j, b)⟩) (hs : Region.noSelect ops = true) (hf : Region.free .any ops listed i = true) (hr : (Region.ready .any ops listed).contains i = true) (hd : okd n dst = true)
    (hj : (ops[j]?).bind (·.dst) = some d) (hv : ρ d = .bool t) (ht : t = !b) (hS : S w) (h : aw P n ops S fuel (listed.setIfInBounds i true) K (updo ρ dst undef) w) : aw P n ops S (fuel + 1) listed K ρ w := fun a ha => by
  subst ht; exact wpAnyH_take hi hs hf hr (fun _ _ _ h => h) (.inr ⟨unwanted_of ha hj (.inl hv), rfl⟩) hS (h _ (ha.put hd undef))
theorem zAf (i : Nat) {j d : Nat} {b t : Bool} (hi : ops[i]? = some ⟨dst, op, ty, pos, aft, some (j, b)⟩) (hd : okd n dst = true)
    (hj : (ops[j]?).bind (·.dst) = some d) (hv : ρ d = .bool t) (ht : t = !b) (hS : S w) (h : aw P n ops S fuel (listed.setIfInBounds i true) K (updo ρ dst undef) w) (hs : Region.noSelect ops = true := by kernel_rfl) (hf : Region.free .any ops listed i = true := by kernel_rfl) (hr : (Region.ready .any ops listed).contains i = true := by kernel_rfl) : aw P n ops S (fuel + 1) listed K ρ w := aw_takeOff i hi hs hf hr hd hj hv ht hS h
def awAll (P : Program) (n : Nat) (ops : Array Oper) (S : World → Prop) (fuel : Nat) (listed : Array Bool) (K : Env → World → Prop) (ρ : Env) (w : World) : List Nat → Prop
  | [] => True
  | i :: rs => (∃ o, ops[i]? = some o ∧ lw P n ops [o] (fun ρ' w' => S w' ∧ aw P n ops S fuel (listed.setIfInBounds i true) K ρ' w') ρ w) ∧ awAll P n ops S fuel listed K ρ w rs
theorem aw_ready (rs : List Nat) (hr : Region.ready .any ops listed = rs) (hne : rs ≠ []) (h : awAll P n ops S fuel listed K ρ w rs) : aw P n ops S (fuel + 1) listed K ρ w := fun a ha => by
  refine wpAnyH_all hr hne ?_; clear hr hne
  induction rs with
  | nil => intro i hi; cases hi
  | cons j rs ih =>
    obtain ⟨h1, h2⟩ := h; intro i hi
    rcases List.mem_cons.1 hi with rfl | hi
    · obtain ⟨o, ho, h1⟩ := h1
      have := h1 a ha
      unfold wpOp
      simp only [ho]
      unfold wpList at this
      split
      · rename_i hw
        rw [if_pos hw] at this; refine this.imp (fun hh => Oper.wp_mono (fun a' w' hq => ?_) hh) id; obtain ⟨ρ', ha', q1, q2⟩ := hq; exact ⟨q1, q2 a' ha'⟩
      · rename_i hw
        rw [if_neg hw] at this; obtain ⟨ρ', ha', q1, q2⟩ := this; exact ⟨q1, q2 _ ha'⟩
    · exact ih h2 i hi
theorem zAc (rs : List Nat) (h : awAll P n ops S fuel listed K ρ w rs) (hr : Region.ready .any ops listed = rs := by kernel_rfl) (hne : rs ≠ [] := by simp) : aw P n ops S (fuel + 1) listed K ρ w := aw_ready rs hr hne h
end
end
end
section
open Go.RowKit
structure HP where
  ok : (Nat → Prop) → World → Prop
  loc : ∀ {F : Nat → Prop} {w w' : World}, ok F w → (∀ b, F b → w'.heap[b]? = w.heap[b]?) → ok F w'
  lt : ∀ {F : Nat → Prop} {w : World} {b : Nat}, ok F w → F b → b < w.heap.size
def zDi (w : World) : List HP → (Nat → Prop) → Prop
  | [], _ => True
  | C :: L, X => ∃ F, C.ok F w ∧ (∀ b, F b → ¬ X b) ∧ zDi w L (fun b => X b ∨ F b)
theorem zDi.less {w : World} : ∀ {L : List HP} {X X' : Nat → Prop}, (∀ b, X' b → X b) → zDi w L X → zDi w L X'
  | [], _, _, _, _ => trivial
  | _ :: _, _, _, hX, ⟨F, h1, h2, h3⟩ => ⟨F, h1, fun b hb hx => h2 b hb (hX b hx), zDi.less (fun b hb => hb.imp (hX b) id) h3⟩
theorem zDi.keep {w w' : World} : ∀ {L : List HP} {X : Nat → Prop}, (∀ b, b < w.heap.size → ¬ X b → w'.heap[b]? = w.heap[b]?) → zDi w L X → zDi w' L X
  | [], _, _, _ => trivial
  | C :: _, _, hk, ⟨F, h1, h2, h3⟩ => ⟨F, C.loc h1 (fun b hb => hk b (C.lt h1 hb) (h2 b hb)), h2, zDi.keep (fun b hb hx => hk b hb fun h => hx (.inl h)) h3⟩
theorem zDi.keepNew {w w' : World} : ∀ {L : List HP} {X : Nat → Prop}, (∀ b, b < w.heap.size → ¬ X b → w'.heap[b]? = w.heap[b]?) → zDi w L X → zDi w' L (fun b => X b ∨ w.heap.size ≤ b)
  | [], _, _, _ => trivial
  | C :: _, _, hk, ⟨F, h1, h2, h3⟩ => ⟨F, C.loc h1 (fun b hb => hk b (C.lt h1 hb) (h2 b hb)), fun b hb hx => hx.elim (h2 b hb) (fun hn => absurd (C.lt h1 hb) (Nat.not_lt.2 hn)),
      zDi.less (fun b hb => hb.elim (fun hb => hb.elim (fun h => .inl (.inl h)) .inr) fun h => .inl (.inr h)) (zDi.keepNew (fun b hb hx => hk b hb fun h => hx (.inl h)) h3)⟩
theorem zDi.get {w : World} {C : HP} : ∀ {L : List HP} {X : Nat → Prop} {i : Nat}, L[i]? = some C → zDi w L X → ∃ F, C.ok F w ∧ (∀ b, F b → ¬ X b) ∧ zDi w (L.eraseIdx i) (fun b => X b ∨ F b)
  | [], _, _, h, _ => by simp at h
  | D :: L, X, 0, h, ⟨F, h1, h2, h3⟩ => by
    obtain rfl : D = C := by simpa using h
    exact ⟨F, h1, h2, h3⟩
  | D :: L, X, i + 1, h, ⟨F, h1, h2, h3⟩ => by
    obtain ⟨G, g1, g2, g3⟩ := zDi.get (i := i) (by simpa using h) h3; exact ⟨G, g1, fun b hb hx => g2 b hb (.inl hx), F, h1, fun b hb hx => hx.elim (h2 b hb) fun hg => g2 b hg (.inr hb), zDi.less (fun b hb => hb.elim (fun hb => hb.elim (fun h => .inl (.inl h)) .inr) fun hb => .inl (.inr hb)) g3⟩
theorem zDi.put {w : World} {C : HP} : ∀ {L : List HP} {X F : Nat → Prop} {i : Nat}, i < L.length → C.ok F w → (∀ b, F b → ¬ X b) → zDi w (L.eraseIdx i) (fun b => X b ∨ F b) → zDi w (L.set i C) X
  | [], _, _, _, h, _, _, _ => by simp at h
  | D :: L, X, F, 0, _, h1, h2, h3 => ⟨F, h1, h2, h3⟩
  | D :: L, X, F, i + 1, h, h1, h2, h3 => by
    obtain ⟨G, g1, g2, g3⟩ := h3; refine ⟨G, g1, fun b hb hx => g2 b hb (.inl hx), zDi.put (F := F) (by simpa using h) h1 (fun b hb hx => hx.elim (h2 b hb) fun hg => g2 b hg (.inr hb)) ?_⟩; exact zDi.less (fun b hb => hb.elim (fun hb => hb.elim (fun h => .inl (.inl h)) .inr) fun hb => .inl (.inr hb)) g3
theorem zDi.drop {w : World} : ∀ {L : List HP} {X : Nat → Prop} (i : Nat), zDi w L X → zDi w (L.eraseIdx i) X
  | [], _, _, _ => trivial
  | _ :: _, _, 0, ⟨_, _, _, h3⟩ => zDi.less (fun _ h => .inl h) h3
  | _ :: _, _, i + 1, ⟨F, h1, h2, h3⟩ => ⟨F, h1, h2, zDi.drop i h3⟩
theorem zDi.append {w : World} : ∀ {L M : List HP} {X : Nat → Prop}, zDi w (L ++ M) X → zDi w M X
  | [], _, _, h => h
  | _ :: L, _, _, ⟨_, _, _, h3⟩ => zDi.less (fun _ h => .inl h) (zDi.append (L := L) h3)
structure Mem (g w : World) (L : List HP) : Prop where
  os : w.os = g.os
  tape : w.tape = g.tape
  output : w.output = g.output
  size : g.heap.size ≤ w.heap.size
  old : ∀ b, b < g.heap.size → w.heap[b]? = g.heap[b]?
  sat : zDi w L fun b => b < g.heap.size
section
variable {g w w' : World} {L : List HP} {C C' : HP} {i : Nat}
theorem Mem.start (g : World) : Mem g g [] := ⟨rfl, rfl, rfl, Nat.le_refl _, fun _ _ => rfl, trivial⟩
theorem Mem.below0 (h : Mem g w L) : Below g.heap.size g w := ⟨h.os, h.tape, h.output, h.size, h.old⟩
theorem Mem.read (h : Mem g w L) (hi : L[i]? = some C) : ∃ F, C.ok F w := let ⟨F, h1, _⟩ := h.sat.get hi; ⟨F, h1⟩
theorem Mem.turn (h : Mem g w L) (hi : L[i]? = some C) : ∃ F, C.ok F w ∧ ∀ (w' : World) (C' : HP) (F' : Nat → Prop), C'.ok F' w' → (∀ b, F' b → F b ∨ w.heap.size ≤ b) → Keeps F w w' → Mem g w' (L.set i C') := by
  obtain ⟨F, h1, h2, h3⟩ := h.sat.get hi; refine ⟨F, h1, fun w' C' F' g1 g2 k => ⟨k.os.trans h.os, k.tape.trans h.tape, k.output.trans h.output, Nat.le_trans h.size k.size, fun b hb => (k.block b (Nat.lt_of_lt_of_le hb h.size) fun hf => h2 b hf hb).trans (h.old b hb), ?_⟩⟩; have hlt : i < L.length := (List.getElem?_eq_some_iff.1 hi).1; refine zDi.put (F := F') hlt g1 (fun b hf hb => (g2 b hf).elim (fun hf => h2 b hf hb) fun hn => by have := h.size; omega) ?_; refine zDi.less ?_ (zDi.keepNew (w' := w') (fun b hb hx => k.block b hb fun hf => hx (.inr hf)) h3)
  exact fun b hb => hb.elim (fun h => .inl (.inl h)) fun hb => (g2 b hb).elim (fun h => .inl (.inr h)) .inr
theorem Mem.keeps (h : Mem g w L) (k : Keeps (fun _ => False) w w') : Mem g w' L :=
  ⟨k.os.trans h.os, k.tape.trans h.tape, k.output.trans h.output, Nat.le_trans h.size k.size, fun b hb => (k.block b (Nat.lt_of_lt_of_le hb h.size) id).trans (h.old b hb), h.sat.keep fun b hb _ => k.block b hb id⟩
theorem Mem.below (h : Mem g w L) (k : Below w.heap.size w w') : Mem g w' L := h.keeps (Keeps.of_below k _)
theorem Mem.drew (h : Mem g w L) : Mem g w.drew L := h.keeps (Keeps.refl _ _).drew
theorem Mem.add (h : Mem g w L) {F' : Nat → Prop} (hC : C'.ok F' w') (hF : ∀ b, F' b → w.heap.size ≤ b) (k : Keeps (fun _ => False) w w') : Mem g w' (C' :: L) :=
  ⟨k.os.trans h.os, k.tape.trans h.tape, k.output.trans h.output, Nat.le_trans h.size k.size, fun b hb => (k.block b (Nat.lt_of_lt_of_le hb h.size) id).trans (h.old b hb), F', hC, fun b hf hb => by have := hF b hf; have := h.size; omega,
    zDi.less (fun b hb => hb.imp id (hF b)) (h.sat.keepNew (w' := w') fun b hb _ => k.block b hb id)⟩
theorem Mem.pick (h : Mem g w L) (i : Nat) (hi : L[i]? = some C) : Mem g w (C :: L.eraseIdx i) :=
  ⟨h.os, h.tape, h.output, h.size, h.old, let ⟨F, h1, h2, h3⟩ := h.sat.get hi; ⟨F, h1, h2, h3⟩⟩
theorem Mem.drop (h : Mem g w L) (i : Nat) : Mem g w (L.eraseIdx i) := ⟨h.os, h.tape, h.output, h.size, h.old, h.sat.drop i⟩
theorem Mem.tail (h : Mem g w (C :: L)) : Mem g w L := h.drop 0
theorem Mem.nil (h : Mem g w L) : Mem g w [] := ⟨h.os, h.tape, h.output, h.size, h.old, trivial⟩
theorem zDi.suffix {w : World} : ∀ {L : List HP} {X : Nat → Prop} (k : Nat), zDi w L X → zDi w (L.drop k) X
  | _, _, 0, h => h
  | [], _, _ + 1, _ => trivial
  | _ :: _, _, k + 1, ⟨_, _, _, h3⟩ => zDi.less (fun _ h => .inl h) (zDi.suffix k h3)
theorem Mem.suffix {M : List HP} (h : Mem g w L) (k : Nat) (hk : L.drop k = M) : Mem g w M := hk ▸ ⟨h.os, h.tape, h.output, h.size, h.old, h.sat.suffix k⟩
theorem Mem.cellOld (h : Mem g w L) {a : Addr} {v : Value} (hc : g.cell? a = some v) : w.cell? a = some v := by
  have hb : a.block < g.heap.size := World.block_lt_of_cell? g a hc
  have : w.cell? a = g.cell? a := by simp only [World.cell?, h.old a.block hb]
  rw [this]; exact hc
end
def Ens (g : World) (L : List HP) (p : World → Prop) : Prop := ∀ w, Mem g w L → p w
section
variable {g w : World} {L : List HP} {p q : World → Prop} {C : HP}
theorem Ens.of (i : Nat) (hi : L[i]? = some C) (hC : ∀ F w, C.ok F w → p w) : Ens g L p := fun _ h => let ⟨F, h1⟩ := h.read hi; hC F _ h1
theorem Ens.imp (h : Ens g L p) (hq : ∀ w, p w → q w) : Ens g L q := fun w hs => hq w (h w hs)
theorem Ens.cons (h : Ens g L p) : Ens g (C :: L) p := fun w hs => h w hs.tail
end
def cells (b : Nat) (cs : List Value) (T : TypeId) : HP where
  ok F w := w.heap[b]? = some (.cells cs.toArray T (0, 0)) ∧ ∀ x, F x ↔ x = b
  loc := fun ⟨h, hF⟩ k => ⟨(k b ((hF b).2 rfl)).trans h, hF⟩
  lt := fun ⟨h, hF⟩ hb => by rw [(hF _).1 hb]; exact lt_of_block h
theorem lt_keep {w w' : World} {b : Nat} (h : b < w.heap.size) (k : w'.heap[b]? = w.heap[b]?) : b < w'.heap.size := by
  rw [Array.getElem?_eq_getElem h] at k; exact (Array.getElem?_eq_some_iff.1 k).1
def own (v : Value) (l : List Value) : HP where
  ok F w := ownV w v l ∧ ∀ x, F x ↔ blk v = some x
  loc := fun {F w w'} ⟨⟨a, n, c, hv, hn, hc, ha, h⟩, hF⟩ k => by
    subst hv
    have hk : ∀ b, blk (.slice a n c) = some b → w'.heap[b]? = w.heap[b]? := fun b hb => k b ((hF b).2 hb)
    refine ⟨⟨a, n, c, rfl, hn, hc, ⟨ha.1, fun b hb => lt_keep (ha.2 b hb) (hk b hb)⟩, ?_⟩, hF⟩
    rcases h with h | ⟨b, off, cs, E, rfl, hb, r⟩
    · exact .inl h
    · exact .inr ⟨b, off, cs, E, rfl, (hk b rfl).trans hb, r⟩
  lt := fun ⟨h, hF⟩ hb => h.lt _ ((hF _).1 hb)
theorem zEs.heap {w w' : World} {v : Value} {l : List Value} (h : zEs w v l) (k : ∀ b, blk v = some b → w'.heap[b]? = w.heap[b]?) : zEs w' v l := by
  obtain ⟨a, n, c, rfl, hn, hc, ha, h⟩ := h; refine ⟨a, n, c, rfl, hn, hc, ha, ?_⟩
  rcases h with h | ⟨b, off, cs, E, fz, rfl, hb, r⟩
  · exact .inl h
  · exact .inr ⟨b, off, cs, E, fz, rfl, (k b rfl).trans hb, r⟩
def Came (g : World) (v : Value) (l : List Value) : Prop := zEs g v l ∧ ∀ b, blk v = some b → b < g.heap.size
theorem zEs.stay {w w' : World} {v : Value} {l : List Value} (h : zEs w v l) (k : ∀ b, b < w.heap.size → w'.heap[b]? = w.heap[b]?) : zEs w' v l := by
  obtain ⟨a, n, c, rfl, hn, hc, ha, h⟩ := h; refine ⟨a, n, c, rfl, hn, hc, ha, ?_⟩
  rcases h with h | ⟨b, off, cs, E, fz, rfl, hb, r⟩
  · exact .inl h
  · exact .inr ⟨b, off, cs, E, fz, rfl, (k b (lt_of_block hb)).trans hb, r⟩
def Rd (g : World) (L : List HP) (v : Value) (l : List Value) : Prop := Ens g L fun w => zEs w v l
theorem Came.rd {g : World} {v : Value} {l : List Value} (h : Came g v l) (L : List HP) : Rd g L v l := fun _ hs => h.1.stay hs.old
theorem Rd.own {g : World} {L : List HP} {v : Value} {l : List Value} (i : Nat) (hi : L[i]? = some (own v l)) : Rd g L v l := Ens.of i hi fun _ _ h => h.1.seq
theorem Rd.cons {g : World} {L : List HP} {C : HP} {v : Value} {l : List Value} (h : Rd g L v l) : Rd g (C :: L) v l := fun w hs => h w hs.tail
theorem Rd.nil {g : World} {L : List HP} : Rd g L (.slice none 0 0) [] := fun w _ => zEs.nil w
theorem Rd.seq {g w : World} {L : List HP} {v : Value} {l : List Value} (h : Rd g L v l) (hs : Mem g w L) : zEs w v l := h w hs
end
section
open Go.RowKit
variable {P : Program} {ρ : Env} {w : World} {dst : Option Tmp} {ty : TypeId} {pos : String} {aft : Array Edge}
def zDo (n : Int) : Prop := -9223372036854775808 ≤ n ∧ n ≤ 9223372036854775807
theorem zDo.wrap {n : Int} (h : zDo n) : IntKind.i64.wrap n = n := by
  obtain ⟨h1, h2⟩ := h
  have h64 : (2 : Int) ^ 64 = 18446744073709551616 := by decide
  have h63 : (2 : Int) ^ (64 - 1) = 9223372036854775808 := by decide
  simp only [IntKind.wrap, IntKind.bits, IntKind.signed, h64, h63, Bool.true_and, decide_eq_true_eq]
  split <;> omega
theorem zA1 {x : Operand} {v : Value} (h : ev ρ x = v) : (execOp (ev ρ) ⟨dst, .move x, ty, pos, aft, none⟩).run P w = .ok (.value v) w := by subst h; rfl
theorem zA0 {x : Operand} {v : Value} (h : ev ρ x = v) : (execOp (ev ρ) ⟨dst, .assign x, ty, pos, aft, none⟩).run P w = .ok (.value v) w := by subst h; rfl
theorem zAj {c a b : Operand} {t : Bool} {v : Value} (hc : ev ρ c = .bool t) (ht : t = true) (ha : ev ρ a = v) : (execOp (ev ρ) ⟨dst, .pick c a b, ty, pos, aft, none⟩).run P w = .ok (.value v) w := by
  subst ha ht; simp [execOp, hc, asBool]
theorem zAg {c a b : Operand} {t : Bool} {v : Value} (hc : ev ρ c = .bool t) (ht : t = false) (hb : ev ρ b = v) : (execOp (ev ρ) ⟨dst, .pick c a b, ty, pos, aft, none⟩).run P w = .ok (.value v) w := by
  subst hb ht; simp [execOp, hc, asBool]
theorem int_beq (a b : Int) : (a == b) = decide (a = b) := by by_cases h : a = b <;> simp [h]
theorem zDb {op : BinOp} {t : TypeId} {x y : Operand} {k : IntKind} {a : Int} {v : Value} : (eqGuard op t x y (.int k a) v).run P w = .ok () w := by
  cases op <;> rfl
section
variable {x y : Operand} {t u : TypeId} {k k2 : IntKind} {a b : Int}
theorem run_add (hx : ev ρ x = .int k a) (hy : ev ρ y = .int k b) : (execOp (ev ρ) ⟨dst, .binOp .add t x y u, ty, pos, aft, none⟩).run P w = .ok (.value (.int k (k.wrap (a + b)))) w := by
  simp [execOp, hx, hy, zDb, binOp, Op.intArith]
theorem run_sub (hx : ev ρ x = .int k a) (hy : ev ρ y = .int k b) : (execOp (ev ρ) ⟨dst, .binOp .sub t x y u, ty, pos, aft, none⟩).run P w = .ok (.value (.int k (k.wrap (a - b)))) w := by
  simp [execOp, hx, hy, zDb, binOp, Op.intArith]
theorem run_mul (hx : ev ρ x = .int k a) (hy : ev ρ y = .int k b) : (execOp (ev ρ) ⟨dst, .binOp .mul t x y u, ty, pos, aft, none⟩).run P w = .ok (.value (.int k (k.wrap (a * b)))) w := by
  simp [execOp, hx, hy, zDb, binOp, Op.intArith]
theorem zAo {c : Int} (hx : ev ρ x = .int .i64 a) (hy : ev ρ y = .int .i64 b) (hc : a + b = c) (h : zDo c) : (execOp (ev ρ) ⟨dst, .binOp .add t x y u, ty, pos, aft, none⟩).run P w = .ok (.value (.int .i64 c)) w := by
  rw [run_add hx hy, hc, h.wrap]
theorem zCx {c : Int} (hx : ev ρ x = .int .i64 a) (hy : ev ρ y = .int .i64 b) (hc : a - b = c) (h : zDo c) : (execOp (ev ρ) ⟨dst, .binOp .sub t x y u, ty, pos, aft, none⟩).run P w = .ok (.value (.int .i64 c)) w := by
  rw [run_sub hx hy, hc, h.wrap]
theorem run_mul64 {c : Int} (hx : ev ρ x = .int .i64 a) (hy : ev ρ y = .int .i64 b) (hc : a * b = c) (h : zDo c) : (execOp (ev ρ) ⟨dst, .binOp .mul t x y u, ty, pos, aft, none⟩).run P w = .ok (.value (.int .i64 c)) w := by
  rw [run_mul hx hy, hc, h.wrap]
theorem run_quo (hx : ev ρ x = .int k a) (hy : ev ρ y = .int k b) (hb : b ≠ 0) : (execOp (ev ρ) ⟨dst, .binOp .quo t x y u, ty, pos, aft, none⟩).run P w = .ok (.value (.int k (k.wrap (a.tdiv b)))) w := by
  simp [execOp, hx, hy, zDb, binOp, Op.intDiv, hb]
theorem run_rem (hx : ev ρ x = .int k a) (hy : ev ρ y = .int k b) (hb : b ≠ 0) : (execOp (ev ρ) ⟨dst, .binOp .rem t x y u, ty, pos, aft, none⟩).run P w = .ok (.value (.int k (a.tmod b))) w := by
  simp [execOp, hx, hy, zDb, binOp, Op.intDiv, hb]
theorem run_quo64 {c : Int} (hx : ev ρ x = .int .i64 a) (hy : ev ρ y = .int .i64 b) (hb : 0 < b) (ha : 0 ≤ a) (hc : a / b = c) (h : zDo a) : (execOp (ev ρ) ⟨dst, .binOp .quo t x y u, ty, pos, aft, none⟩).run P w = .ok (.value (.int .i64 c)) w := by
  have h1 : a.tdiv b = a / b := Int.tdiv_eq_ediv_of_nonneg ha; have h2 : 0 ≤ a / b := Int.ediv_nonneg ha (by omega); have h3 : a / b ≤ a := Int.ediv_le_self b ha; rw [run_quo hx hy (by omega), h1, zDo.wrap ⟨by omega, by have := h.2; omega⟩, hc]
theorem run_rem64 {c : Int} (hx : ev ρ x = .int .i64 a) (hy : ev ρ y = .int .i64 b) (hb : 0 < b) (ha : 0 ≤ a) (hc : a % b = c) : (execOp (ev ρ) ⟨dst, .binOp .rem t x y u, ty, pos, aft, none⟩).run P w = .ok (.value (.int .i64 c)) w := by
  rw [run_rem hx hy (by omega), Int.tmod_eq_emod_of_nonneg ha, hc]
theorem zB6 (hx : ev ρ x = .int k a) (hy : ev ρ y = .int k b) : (execOp (ev ρ) ⟨dst, .binOp .lss t x y u, ty, pos, aft, none⟩).run P w = .ok (.value (.bool (decide (a < b)))) w := by
  simp [execOp, hx, hy, zDb, binOp, Op.intCmp]
theorem zE8 (hx : ev ρ x = .int k a) (hy : ev ρ y = .int k b) : (execOp (ev ρ) ⟨dst, .binOp .leq t x y u, ty, pos, aft, none⟩).run P w = .ok (.value (.bool (decide (a ≤ b)))) w := by
  simp [execOp, hx, hy, zDb, binOp, Op.intCmp]
theorem zBn (hx : ev ρ x = .int k a) (hy : ev ρ y = .int k b) : (execOp (ev ρ) ⟨dst, .binOp .gtr t x y u, ty, pos, aft, none⟩).run P w = .ok (.value (.bool (decide (b < a)))) w := by
  simp [execOp, hx, hy, zDb, binOp, Op.intCmp]
theorem zD5 (hx : ev ρ x = .int k a) (hy : ev ρ y = .int k b) : (execOp (ev ρ) ⟨dst, .binOp .geq t x y u, ty, pos, aft, none⟩).run P w = .ok (.value (.bool (decide (b ≤ a)))) w := by
  simp [execOp, hx, hy, zDb, binOp, Op.intCmp]
theorem zBq (hx : ev ρ x = .int k a) (hy : ev ρ y = .int k b) : (execOp (ev ρ) ⟨dst, .binOp .eql t x y u, ty, pos, aft, none⟩).run P w = .ok (.value (.bool (decide (a = b)))) w := by
  simp [execOp, hx, hy, zDb, binOp, Op.intCmp, int_beq]
theorem zDy (hx : ev ρ x = .int k a) (hy : ev ρ y = .int k b) : (execOp (ev ρ) ⟨dst, .binOp .neq t x y u, ty, pos, aft, none⟩).run P w = .ok (.value (.bool (!decide (a = b)))) w := by
  simp [execOp, hx, hy, zDb, binOp, Op.intCmp, bne, int_beq]
theorem zFk {op : BinOp} (hop : op = .and ∨ op = .or ∨ op = .xor ∨ op = .andNot) {v : Value} (hx : ev ρ x = .int k a) (hy : ev ρ y = .int k b) (hr : (Op.intBits op k a b).run P w = .ok v w) : (execOp (ev ρ) ⟨dst, .binOp op t x y u, ty, pos, aft, none⟩).run P w = .ok (.value v) w := by
  rcases hop with rfl | rfl | rfl | rfl <;> simp [execOp, hx, hy, zDb, binOp, hr]
theorem run_neg64 {c : Int} (hx : ev ρ x = .int .i64 a) (hc : -a = c) (h : zDo c) : (execOp (ev ρ) ⟨dst, .unOp .neg t x, ty, pos, aft, none⟩).run P w = .ok (.value (.int .i64 c)) w := by
  have : (0 : Int) - a = c := by omega
  simp [execOp, hx, Op.unary, Op.intArith, this, h.wrap]
theorem run_conv (hs : P.underlying t = some (.int k2)) (hd : P.underlying u = some (.int k)) (hx : ev ρ x = .int k2 a) : (execOp (ev ρ) ⟨dst, .convert t u x, ty, pos, aft, none⟩).run P w = .ok (.value (.int k (k.wrap a))) w := by
  simp [execOp, convert, run_underlying hs, run_underlying hd, hx, Conv.intToInt]
theorem zAt {c : Int} (hs : P.underlying t = some (.int k2)) (hd : P.underlying u = some (.int k)) (hx : ev ρ x = .int k2 a) (hc : k.wrap a = c) : (execOp (ev ρ) ⟨dst, .convert t u x, ty, pos, aft, none⟩).run P w = .ok (.value (.int k c)) w := by
  rw [run_conv hs hd hx, hc]
theorem zBx {p : Bool} (hx : ev ρ x = .bool p) : (execOp (ev ρ) ⟨dst, .unOp .not t x, ty, pos, aft, none⟩).run P w = .ok (.value (.bool (!p))) w := by
  simp [execOp, hx, Op.unary]
theorem run_shr {n : Nat} {c : Int} (hx : ev ρ x = .int k a) (hy : ev ρ y = .int k2 b) (hb : b = n) (hn : n ≤ k.bits) (hc : a / 2 ^ n = c) : (execOp (ev ρ) ⟨dst, .binOp .shr t x y u, ty, pos, aft, none⟩).run P w = .ok (.value (.int k c)) w := by
  subst hb
  have h0 : ¬ (n : Int) < 0 := by omega
  have h1 : min n k.bits = n := Nat.min_eq_left hn; have h2 : a.fdiv (2 ^ n) = a / 2 ^ n := Int.fdiv_eq_ediv_of_nonneg _ (Int.le_of_lt (Int.pow_pos (by decide)))
  simp [execOp, hx, hy, zDb, binOp, Op.shift, h0, h1, h2, hc]
theorem run_shl {n : Nat} {c : Int} (hx : ev ρ x = .int k a) (hy : ev ρ y = .int k2 b) (hb : b = n) (hn : n ≤ k.bits) (hc : k.wrap (a * 2 ^ n) = c) : (execOp (ev ρ) ⟨dst, .binOp .shl t x y u, ty, pos, aft, none⟩).run P w = .ok (.value (.int k c)) w := by
  subst hb
  have h0 : ¬ (n : Int) < 0 := by omega
  have h1 : min n k.bits = n := Nat.min_eq_left hn
  simp [execOp, hx, hy, zDb, binOp, Op.shift, h0, h1, hc]
end
theorem bytes_eq (s t : ByteArray) : (s.toList == t.toList) = decide (s = t) := by
  by_cases h : s = t
  · subst h; simp
  · have : s.toList ≠ t.toList := fun e => h (by
      have h1 : s.data.toList = t.data.toList := by rw [← ByteArray.toList_eq, ← ByteArray.toList_eq]; exact e
      cases s; cases t; simp only [ByteArray.mk.injEq]; exact Array.toList_inj.1 h1)
    simp [h, this]
theorem guard_str {op : BinOp} {t : TypeId} {x y : Operand} {a : ByteArray} {v : Value} : (eqGuard op t x y (.string a) v).run P w = .ok () w := by cases op <;> rfl
theorem guard_bool {op : BinOp} {t : TypeId} {x y : Operand} {a : Bool} {v : Value} : (eqGuard op t x y (.bool a) v).run P w = .ok () w := by cases op <;> rfl
theorem guard_ptr {op : BinOp} {t : TypeId} {x y : Operand} {a : Option Addr} {v : Value} : (eqGuard op t x y (.pointer a) v).run P w = .ok () w := by cases op <;> rfl
section
variable {x y : Operand} {t u : TypeId}
theorem run_eqs {a b : ByteArray} (hx : ev ρ x = .string a) (hy : ev ρ y = .string b) : (execOp (ev ρ) ⟨dst, .binOp .eql t x y u, ty, pos, aft, none⟩).run P w = .ok (.value (.bool (decide (a = b)))) w := by
  simp [execOp, hx, hy, guard_str, binOp, Op.stringOp, bytes_eq]
theorem run_nes {a b : ByteArray} (hx : ev ρ x = .string a) (hy : ev ρ y = .string b) : (execOp (ev ρ) ⟨dst, .binOp .neq t x y u, ty, pos, aft, none⟩).run P w = .ok (.value (.bool (!decide (a = b)))) w := by
  simp [execOp, hx, hy, guard_str, binOp, Op.stringOp, bytes_eq]
theorem equal_bool {a b : Bool} (ht : P.underlying t = some .bool) : (Op.equal t (.bool a) (.bool b)).run P w = .ok (a == b) w := by
  show (Op.equalIn 10000 _ _ _).run P w = _
  rw [Op.equalIn]; simp [run_underlying ht]
theorem equal_ptrn {e : TypeId} {a : Option Addr} (ht : P.underlying t = some (.pointer e)) : (Op.equal t (.pointer a) (.pointer none)).run P w = .ok a.isNone w := by
  show (Op.equalIn 10000 _ _ _).run P w = _
  rw [Op.equalIn]; cases a <;> simp [run_underlying ht]
theorem binOp_neb {a b : Bool} : binOp .neq t (.bool a) (.bool b) = (do pure (.bool (!(← Op.equal t (.bool a) (.bool b))))) := rfl
theorem binOp_eqp {a b : Option Addr} : binOp .eql t (.pointer a) (.pointer b) = (do pure (.bool (← Op.equal t (.pointer a) (.pointer b)))) := by cases a <;> cases b <;> rfl
theorem binOp_nep {a b : Option Addr} : binOp .neq t (.pointer a) (.pointer b) = (do pure (.bool (!(← Op.equal t (.pointer a) (.pointer b))))) := by cases a <;> cases b <;> rfl
theorem run_neb {a b : Bool} (ht : P.underlying t = some .bool) (hx : ev ρ x = .bool a) (hy : ev ρ y = .bool b) : (execOp (ev ρ) ⟨dst, .binOp .neq t x y u, ty, pos, aft, none⟩).run P w = .ok (.value (.bool (!(a == b)))) w := by
  simp only [execOp, hx, hy, binOp_neb]; simp [guard_bool, equal_bool ht]
theorem zDj {e : TypeId} {a : Option Addr} (ht : P.underlying t = some (.pointer e)) (hx : ev ρ x = .pointer a) (hy : ev ρ y = .pointer none) : (execOp (ev ρ) ⟨dst, .binOp .eql t x y u, ty, pos, aft, none⟩).run P w = .ok (.value (.bool a.isNone)) w := by
  simp only [execOp, hx, hy, binOp_eqp]; simp [guard_ptr, equal_ptrn ht]
theorem run_nepn {e : TypeId} {a : Option Addr} (ht : P.underlying t = some (.pointer e)) (hx : ev ρ x = .pointer a) (hy : ev ρ y = .pointer none) : (execOp (ev ρ) ⟨dst, .binOp .neq t x y u, ty, pos, aft, none⟩).run P w = .ok (.value (.bool (!a.isNone))) w := by
  simp only [execOp, hx, hy, binOp_nep]; simp [guard_ptr, equal_ptrn ht]
theorem run_indexs {s : ByteArray} {k : IntKind} {i : Nat} {b : UInt8} (ht : P.underlying t = some .string) (hx : ev ρ x = .string s) (hy : ev ρ y = .int k i) (hb : s.data.toList[i]? = some b) : (execOp (ev ρ) ⟨dst, .index t x y, ty, pos, aft, none⟩).run P w = .ok (.value (.int .u8 b.toNat)) w := by
  have h1 : s[i]? = some b := by
    obtain ⟨hlt, rfl⟩ := List.getElem?_eq_some_iff.1 hb
    have hs : i < s.size := by simpa using hlt
    rw [getElem?_pos s i hs]; rfl
  simp [execOp, Instr.index, hx, hy, asIntOf, run_underlying ht, h1]
end
theorem zA9 {x : Operand} {vs : Array Value} {i : Nat} {v : Value} (hx : ev ρ x = .tuple vs) (hv : vs[i]? = some v) : (execOp (ev ρ) ⟨dst, .extract x i, ty, pos, aft, none⟩).run P w = .ok (.value v) w := by
  simp [execOp, hx, Instr.extract, hv]
theorem zAu {x : Operand} {t e : TypeId} {a : Option Addr} {n c : Nat} (ht : P.underlying t = some (.slice e)) (hx : ev ρ x = .slice a n c) : (execOp (ev ρ) ⟨dst, .call { callee := .builtin .len, args := #[x], argTypes := #[t] }, ty, pos, aft, none⟩).run P w = .ok (.value (.int .i64 n)) w := by
  simp [execOp, resolve, invoke, builtin, Builtin.len_, run_underlying ht, hx, goInt]
theorem run_lenT {x : Operand} {t : TypeId} {s : ByteArray} (ht : P.underlying t = some .string) (hx : ev ρ x = .string s) : (execOp (ev ρ) ⟨dst, .call { callee := .builtin .len, args := #[x], argTypes := #[t] }, ty, pos, aft, none⟩).run P w = .ok (.value (.int .i64 s.size)) w := by
  simp [execOp, resolve, invoke, builtin, Builtin.len_, run_underlying ht, hx, goInt]
theorem zC9 {fn : Fn} {cl : List Operand} : (execOp (ev ρ) ⟨dst, .makeFunc fn #[] cl.toArray, ty, pos, aft, none⟩).run P w = .ok (.value (.func fn #[] (cl.map (ev ρ)).toArray)) w := by
  simp [execOp, Instr.makeFunc]
theorem zA8 {x : Operand} {a : Addr} (hx : ev ρ x = .pointer (some a)) : (execOp (ev ρ) ⟨dst, .nilCheck x, ty, pos, aft, none⟩).run P w = .ok (.value (.pointer (some a))) w := by
  simp [execOp, hx]
theorem zA5 {x : Operand} {s : TypeId} {i : Nat} {fs : Array Field} {f : Field} {sz : Nat} {b o o' : Nat} (hs : P.underlying s = some (.struct fs)) (hf : fs[i]? = some f) (hsz : (P.info? f.type).map (·.size) = some sz) (h0 : Nat.ble 1 sz = true) (hx : ev ρ x = .pointer (some ⟨b, o, none⟩)) (ho : o + f.offset = o') :
    (execOp (ev ρ) ⟨dst, .fieldAddr s x i, ty, pos, aft, none⟩).run P w = .ok (.value (.pointer (some ⟨b, o', none⟩))) w := by
  obtain ⟨inf, hi, hz⟩ := Option.map_eq_some_iff.1 hsz
  have hz0 : inf.size ≠ 0 := by have : 1 ≤ sz := by simpa using h0
                                omega
  simp [execOp, Instr.fieldAt, run_underlying hs, hf, hx, Instr.sureAddr, fieldPlace, sizeOf, typeInfo, hi, hz0, Addr.add_lit, ho]
theorem zB5 {x y : Operand} {t e : TypeId} {k : IntKind} {b o i n c o' : Nat} {z : Int} (ht : P.underlying t = some (.slice e)) (hsz : (P.info? e).map (·.size) = some 1) (hx : ev ρ x = .slice (some ⟨b, o, none⟩) n c) (hy : ev ρ y = .int k z) (hz : z = i) (hi : i < n) (ho : o + i = o') :
    (execOp (ev ρ) ⟨dst, .indexAddr t x y, ty, pos, aft, none⟩).run P w = .ok (.value (.pointer (some ⟨b, o', none⟩))) w := by
  subst hz; obtain ⟨inf, hinf, hz⟩ := Option.map_eq_some_iff.1 hsz
  simp [execOp, Instr.indexAt, run_underlying ht, hx, hy, asIntOf, hi, sizeOf, typeInfo, hinf, hz, Addr.add_lit, ho]
def plainD : TypeDesc → Bool
  | .struct _ | .array _ _ => false
  | _ => true
theorem run_isAgg {t : TypeId} {d : TypeDesc} (ht : P.underlying t = some d) (hd : plainD d = true) : (isAgg t).run P w = .ok false w := by
  cases d <;> simp_all [isAgg, run_underlying ht, plainD]
theorem zA7 {x : Operand} {t : TypeId} {d : TypeDesc} {b o : Nat} {v : Value} (ht : P.underlying t = some d) (hd : plainD d = true) (hx : ev ρ x = .pointer (some ⟨b, o, none⟩)) (hc : w.cell? ⟨b, o, none⟩ = some v) :
    (execOp (ev ρ) ⟨dst, .load t x, ty, pos, aft, none⟩).run P w = .ok (.value v) w := by
  simp [execOp, Instr.loadAt, hx, Instr.sureAddr, loadVar, run_isAgg ht hd, load, Sem.run, hc]
end
section
open Go.RowKit
variable {P : Program} {n : Nat} {ops : Array Oper} {rest : List Oper} {K : Env → World → Prop} {ρ : Env} {g w : World} {L : List HP} {dst : Option Tmp} {ty : TypeId} {pos : String} {aft : Array Edge}
theorem Mem.cellAt (hs : Mem g w L) (i : Nat) {b : Nat} {cs : List Value} {T : TypeId} (hi : L[i]? = some (cells b cs T)) {o : Nat} {v : Value} (hc : cs[o]? = some v) : w.cell? ⟨b, o, none⟩ = some v := by
  obtain ⟨F, h1, _⟩ := hs.read hi; exact zCc h1 (by simpa using hc)
section
variable {P : Program} {n : Nat} {ops : Array Oper} {rest : List Oper} {K : Env → World → Prop} {ρ : Env} {g w : World} {L : List HP} {dst : Option Tmp} {op : Op} {ty : TypeId} {pos : String} {aft : Array Edge} {S : World → Prop} {fuel : Nat} {listed : Array Bool} {x y : Operand} {t u : TypeId} {k k2 : IntKind} {a b : Int}
theorem J0 {x : Operand} {q : Int} (h_ : ev ρ x = (.int .i64 q)) (h : lw P n ops rest K (updo ρ dst ((.int .i64 q))) w) (hd : okd n dst = true := by rfl) : lw P n ops (⟨dst, .move x, ty, pos, aft, none⟩ :: rest) K ρ w := zA hd (zA1 h_) h
theorem J1 {x : Operand} {q : Addr} (h_ : ev ρ x = (.pointer (some q))) (h : lw P n ops rest K (updo ρ dst ((.pointer (some q)))) w) (hd : okd n dst = true := by rfl) : lw P n ops (⟨dst, .move x, ty, pos, aft, none⟩ :: rest) K ρ w := zA hd (zA1 h_) h
theorem J2 {x : Operand} {q : Bool} (h_ : ev ρ x = (.bool q)) (h : lw P n ops rest K (updo ρ dst ((.bool q))) w) (hd : okd n dst = true := by rfl) : lw P n ops (⟨dst, .move x, ty, pos, aft, none⟩ :: rest) K ρ w := zA hd (zA1 h_) h
theorem J7 {x : Operand} {q : Option Addr} {q1 q2 : Nat} (h_ : ev ρ x = (.slice q q1 q2)) (h : lw P n ops rest K (updo ρ dst ((.slice q q1 q2))) w) (hd : okd n dst = true := by rfl) : lw P n ops (⟨dst, .move x, ty, pos, aft, none⟩ :: rest) K ρ w := zA hd (zA1 h_) h
theorem J8 {x : Operand} {ad : Nat → Addr} {q : Nat} (h_ : ev ρ x = (zAk ad q)) (h : lw P n ops rest K (updo ρ dst ((zAk ad q))) w) (hd : okd n dst = true := by rfl) : lw P n ops (⟨dst, .move x, ty, pos, aft, none⟩ :: rest) K ρ w := zA hd (zA1 h_) h
theorem Jc {x : Operand} {q : Array Value} (h_ : ev ρ x = (.tuple q)) (h : lw P n ops rest K (updo ρ dst ((.tuple q))) w) (hd : okd n dst = true := by rfl) : lw P n ops (⟨dst, .move x, ty, pos, aft, none⟩ :: rest) K ρ w := zA hd (zA1 h_) h
theorem Je {x : Operand} {q : ByteArray} (h_ : ev ρ x = (.string q)) (h : lw P n ops rest K (updo ρ dst ((.string q))) w) (hd : okd n dst = true := by rfl) : lw P n ops (⟨dst, .move x, ty, pos, aft, none⟩ :: rest) K ρ w := zA hd (zA1 h_) h
theorem Jh {x : Operand} {q : Int} (h_ : ev ρ x = (.int .u64 q)) (h : lw P n ops rest K (updo ρ dst ((.int .u64 q))) w) (hd : okd n dst = true := by rfl) : lw P n ops (⟨dst, .move x, ty, pos, aft, none⟩ :: rest) K ρ w := zA hd (zA1 h_) h
theorem Jj {x : Operand} (h_ : ev ρ x = (.nilIface)) (h : lw P n ops rest K (updo ρ dst ((.nilIface))) w) (hd : okd n dst = true := by rfl) : lw P n ops (⟨dst, .move x, ty, pos, aft, none⟩ :: rest) K ρ w := zA hd (zA1 h_) h
theorem Jm {x : Operand} {v : Value} (h_ : ev ρ x = v) (h : lw P n ops rest K (updo ρ dst (v)) w) (hd : okd n dst = true := by rfl) : lw P n ops (⟨dst, .move x, ty, pos, aft, none⟩ :: rest) K ρ w := zA hd (zA1 h_) h
theorem Q0 (i0 : Nat) {x : Operand} {q : Addr} (hi : ops[i0]? = some ⟨dst, .move x, ty, pos, aft, none⟩) (h_ : ev ρ x = (.pointer (some q))) (hS : S w) (h : aw P n ops S fuel (listed.setIfInBounds i0 true) K (updo ρ dst ((.pointer (some q)))) w) (hd : okd n dst = true := by rfl) (hs : Region.noSelect ops = true := by kernel_rfl) (hf : Region.free .any ops listed i0 = true := by kernel_rfl) (hr : (Region.ready .any ops listed).contains i0 = true := by kernel_rfl) : aw P n ops S (fuel + 1) listed K ρ w := zA3 i0 hi hd (fun w _ => zA1 h_) hS h hs hf hr
theorem Q2 (i0 : Nat) {x : Operand} {q : Int} (hi : ops[i0]? = some ⟨dst, .move x, ty, pos, aft, none⟩) (h_ : ev ρ x = (.int .i64 q)) (hS : S w) (h : aw P n ops S fuel (listed.setIfInBounds i0 true) K (updo ρ dst ((.int .i64 q))) w) (hd : okd n dst = true := by rfl) (hs : Region.noSelect ops = true := by kernel_rfl) (hf : Region.free .any ops listed i0 = true := by kernel_rfl) (hr : (Region.ready .any ops listed).contains i0 = true := by kernel_rfl) : aw P n ops S (fuel + 1) listed K ρ w := zA3 i0 hi hd (fun w _ => zA1 h_) hS h hs hf hr
theorem Q3 (i0 : Nat) {x : Operand} {q : Option Addr} {q1 q2 : Nat} (hi : ops[i0]? = some ⟨dst, .move x, ty, pos, aft, none⟩) (h_ : ev ρ x = (.slice q q1 q2)) (hS : S w) (h : aw P n ops S fuel (listed.setIfInBounds i0 true) K (updo ρ dst ((.slice q q1 q2))) w) (hd : okd n dst = true := by rfl) (hs : Region.noSelect ops = true := by kernel_rfl) (hf : Region.free .any ops listed i0 = true := by kernel_rfl) (hr : (Region.ready .any ops listed).contains i0 = true := by kernel_rfl) : aw P n ops S (fuel + 1) listed K ρ w := zA3 i0 hi hd (fun w _ => zA1 h_) hS h hs hf hr
theorem Q4 (i0 : Nat) {x : Operand} {v : Value} (hi : ops[i0]? = some ⟨dst, .move x, ty, pos, aft, none⟩) (h_ : ev ρ x = v) (hS : S w) (h : aw P n ops S fuel (listed.setIfInBounds i0 true) K (updo ρ dst (v)) w) (hd : okd n dst = true := by rfl) (hs : Region.noSelect ops = true := by kernel_rfl) (hf : Region.free .any ops listed i0 = true := by kernel_rfl) (hr : (Region.ready .any ops listed).contains i0 = true := by kernel_rfl) : aw P n ops S (fuel + 1) listed K ρ w := zA3 i0 hi hd (fun w _ => zA1 h_) hS h hs hf hr
theorem J3 {x : Operand} (h_ : ev ρ x = (.nilIface)) (h : lw P n ops rest K (updo ρ dst ((.nilIface))) w) (hd : okd n dst = true := by rfl) : lw P n ops (⟨dst, .assign x, ty, pos, aft, none⟩ :: rest) K ρ w := zA hd (zA0 h_) h
theorem J4 {x : Operand} {q : Int} (h_ : ev ρ x = (.int .i64 q)) (h : lw P n ops rest K (updo ρ dst ((.int .i64 q))) w) (hd : okd n dst = true := by rfl) : lw P n ops (⟨dst, .assign x, ty, pos, aft, none⟩ :: rest) K ρ w := zA hd (zA0 h_) h
theorem J5 {x : Operand} {q : Bool} (h_ : ev ρ x = (.bool q)) (h : lw P n ops rest K (updo ρ dst ((.bool q))) w) (hd : okd n dst = true := by rfl) : lw P n ops (⟨dst, .assign x, ty, pos, aft, none⟩ :: rest) K ρ w := zA hd (zA0 h_) h
theorem J6 {x : Operand} {ad : Nat → Addr} {q : Nat} (h_ : ev ρ x = (zAk ad q)) (h : lw P n ops rest K (updo ρ dst ((zAk ad q))) w) (hd : okd n dst = true := by rfl) : lw P n ops (⟨dst, .assign x, ty, pos, aft, none⟩ :: rest) K ρ w := zA hd (zA0 h_) h
theorem Jb {x : Operand} {q : Option Addr} {q1 q2 : Nat} (h_ : ev ρ x = (.slice q q1 q2)) (h : lw P n ops rest K (updo ρ dst ((.slice q q1 q2))) w) (hd : okd n dst = true := by rfl) : lw P n ops (⟨dst, .assign x, ty, pos, aft, none⟩ :: rest) K ρ w := zA hd (zA0 h_) h
theorem Jd {x : Operand} {q : Addr} (h_ : ev ρ x = (.pointer (some q))) (h : lw P n ops rest K (updo ρ dst ((.pointer (some q)))) w) (hd : okd n dst = true := by rfl) : lw P n ops (⟨dst, .assign x, ty, pos, aft, none⟩ :: rest) K ρ w := zA hd (zA0 h_) h
theorem Jf {x : Operand} (h_ : ev ρ x = (.pointer none)) (h : lw P n ops rest K (updo ρ dst ((.pointer none))) w) (hd : okd n dst = true := by rfl) : lw P n ops (⟨dst, .assign x, ty, pos, aft, none⟩ :: rest) K ρ w := zA hd (zA0 h_) h
theorem Ji {x : Operand} {q : Int} (h_ : ev ρ x = (.int .u64 q)) (h : lw P n ops rest K (updo ρ dst ((.int .u64 q))) w) (hd : okd n dst = true := by rfl) : lw P n ops (⟨dst, .assign x, ty, pos, aft, none⟩ :: rest) K ρ w := zA hd (zA0 h_) h
theorem Jl {x : Operand} {v : Value} (h_ : ev ρ x = v) (h : lw P n ops rest K (updo ρ dst (v)) w) (hd : okd n dst = true := by rfl) : lw P n ops (⟨dst, .assign x, ty, pos, aft, none⟩ :: rest) K ρ w := zA hd (zA0 h_) h
theorem Q1 (i0 : Nat) {x : Operand} {ad : Nat → Addr} {q : Nat} (hi : ops[i0]? = some ⟨dst, .assign x, ty, pos, aft, none⟩) (h_ : ev ρ x = (zAk ad q)) (hS : S w) (h : aw P n ops S fuel (listed.setIfInBounds i0 true) K (updo ρ dst ((zAk ad q))) w) (hd : okd n dst = true := by rfl) (hs : Region.noSelect ops = true := by kernel_rfl) (hf : Region.free .any ops listed i0 = true := by kernel_rfl) (hr : (Region.ready .any ops listed).contains i0 = true := by kernel_rfl) : aw P n ops S (fuel + 1) listed K ρ w := zA3 i0 hi hd (fun w _ => zA0 h_) hS h hs hf hr
theorem Q5 (i0 : Nat) {x : Operand} {v : Value} (hi : ops[i0]? = some ⟨dst, .assign x, ty, pos, aft, none⟩) (h_ : ev ρ x = v) (hS : S w) (h : aw P n ops S fuel (listed.setIfInBounds i0 true) K (updo ρ dst (v)) w) (hd : okd n dst = true := by rfl) (hs : Region.noSelect ops = true := by kernel_rfl) (hf : Region.free .any ops listed i0 = true := by kernel_rfl) (hr : (Region.ready .any ops listed).contains i0 = true := by kernel_rfl) : aw P n ops S (fuel + 1) listed K ρ w := zA3 i0 hi hd (fun w _ => zA0 h_) hS h hs hf hr
theorem J9 {c a b : Operand} {t : Bool} {q : Bool} (hc : ev ρ c = .bool t) (ht : t = false) (hb : ev ρ b = (.bool q)) (h : lw P n ops rest K (updo ρ dst ((.bool q))) w) (hd : okd n dst = true := by rfl) : lw P n ops (⟨dst, .pick c a b, ty, pos, aft, none⟩ :: rest) K ρ w := zA hd (zAg hc ht hb) h
theorem Ja {c a b : Operand} {t : Bool} {q : Bool} (hc : ev ρ c = .bool t) (ht : t = true) (ha : ev ρ a = (.bool q)) (h : lw P n ops rest K (updo ρ dst ((.bool q))) w) (hd : okd n dst = true := by rfl) : lw P n ops (⟨dst, .pick c a b, ty, pos, aft, none⟩ :: rest) K ρ w := zA hd (zAj hc ht ha) h
theorem Jg {x : Operand} {vs : Array Value} {i : Nat} {ad : Nat → Addr} {q : Nat} (hx : ev ρ x = .tuple vs) (hv : vs[i]? = some (zAk ad q)) (h : lw P n ops rest K (updo ρ dst ((zAk ad q))) w) (hd : okd n dst = true := by rfl) : lw P n ops (⟨dst, .extract x i, ty, pos, aft, none⟩ :: rest) K ρ w := zA hd (zA9 hx hv) h
theorem Jk {x : Operand} {vs : Array Value} {i : Nat} (hx : ev ρ x = .tuple vs) (hv : vs[i]? = some (.nilIface)) (h : lw P n ops rest K (updo ρ dst ((.nilIface))) w) (hd : okd n dst = true := by rfl) : lw P n ops (⟨dst, .extract x i, ty, pos, aft, none⟩ :: rest) K ρ w := zA hd (zA9 hx hv) h
theorem Ju {x : Operand} {vs : Array Value} {i : Nat} {v : Value} (hx : ev ρ x = .tuple vs) (hv : vs[i]? = some v) (h : lw P n ops rest K (updo ρ dst (v)) w) (hd : okd n dst = true := by rfl) : lw P n ops (⟨dst, .extract x i, ty, pos, aft, none⟩ :: rest) K ρ w := zA hd (zA9 hx hv) h
theorem Q8 (i0 : Nat) {x : Operand} {vs : Array Value} {i : Nat} {v : Value} (hi : ops[i0]? = some ⟨dst, .extract x i, ty, pos, aft, none⟩) (hx : ev ρ x = .tuple vs) (hv : vs[i]? = some v) (hS : S w) (h : aw P n ops S fuel (listed.setIfInBounds i0 true) K (updo ρ dst (v)) w) (hd : okd n dst = true := by rfl) (hs : Region.noSelect ops = true := by kernel_rfl) (hf : Region.free .any ops listed i0 = true := by kernel_rfl) (hr : (Region.ready .any ops listed).contains i0 = true := by kernel_rfl) : aw P n ops S (fuel + 1) listed K ρ w := zA3 i0 hi hd (fun w _ => zA9 hx hv) hS h hs hf hr
theorem Jn (hx : ev ρ x = .int k a) (hy : ev ρ y = .int k b) (h : lw P n ops rest K (updo ρ dst ((.bool (decide (a < b))))) w) (hd : okd n dst = true := by rfl) : lw P n ops (⟨dst, .binOp .lss t x y u, ty, pos, aft, none⟩ :: rest) K ρ w := zA hd (zB6 hx hy) h
theorem Jo {c : Int} (hx : ev ρ x = .int .i64 a) (hy : ev ρ y = .int .i64 b) (hc : a + b = c) (h_ : zDo c) (h : lw P n ops rest K (updo ρ dst ((.int .i64 c))) w) (hd : okd n dst = true := by rfl) : lw P n ops (⟨dst, .binOp .add t x y u, ty, pos, aft, none⟩ :: rest) K ρ w := zA hd (zAo hx hy hc h_) h
theorem Jp {x : Operand} {s : TypeId} {i : Nat} {fs : Array Field} {f : Field} {sz : Nat} {b o o' : Nat} (hs : P.underlying s = some (.struct fs)) (hf : fs[i]? = some f) (hsz : (P.info? f.type).map (·.size) = some sz) (h0 : Nat.ble 1 sz = true) (hx : ev ρ x = .pointer (some ⟨b, o, none⟩)) (ho : o + f.offset = o') (h : lw P n ops rest K (updo ρ dst ((.pointer (some ⟨b, o', none⟩)))) w) (hd : okd n dst = true := by rfl) : lw P n ops (⟨dst, .fieldAddr s x i, ty, pos, aft, none⟩ :: rest) K ρ w := zA hd (zA5 hs hf hsz h0 hx ho) h
theorem Q6 (i0 : Nat) {x : Operand} {s : TypeId} {i : Nat} {fs : Array Field} {f : Field} {sz : Nat} {b o o' : Nat} (hi : ops[i0]? = some ⟨dst, .fieldAddr s x i, ty, pos, aft, none⟩) (hs_ : P.underlying s = some (.struct fs)) (hf_ : fs[i]? = some f) (hsz : (P.info? f.type).map (·.size) = some sz) (h0 : Nat.ble 1 sz = true) (hx : ev ρ x = .pointer (some ⟨b, o, none⟩)) (ho : o + f.offset = o') (hS : S w) (h : aw P n ops S fuel (listed.setIfInBounds i0 true) K (updo ρ dst ((.pointer (some ⟨b, o', none⟩)))) w) (hd : okd n dst = true := by rfl) (hs : Region.noSelect ops = true := by kernel_rfl) (hf : Region.free .any ops listed i0 = true := by kernel_rfl) (hr : (Region.ready .any ops listed).contains i0 = true := by kernel_rfl) : aw P n ops S (fuel + 1) listed K ρ w := zA3 i0 hi hd (fun w _ => zA5 hs_ hf_ hsz h0 hx ho) hS h hs hf hr
theorem Jq {x : Operand} {t : TypeId} {d : TypeDesc} {b o : Nat} {v : Value} (ht : P.underlying t = some d) (hd_ : plainD d = true) (hx : ev ρ x = .pointer (some ⟨b, o, none⟩)) (hc : w.cell? ⟨b, o, none⟩ = some v) (h : lw P n ops rest K (updo ρ dst (v)) w) (hd : okd n dst = true := by rfl) : lw P n ops (⟨dst, .load t x, ty, pos, aft, none⟩ :: rest) K ρ w := zA hd (zA7 ht hd_ hx hc) h
theorem Jr {p : Bool} (hx : ev ρ x = .bool p) (h : lw P n ops rest K (updo ρ dst ((.bool (!p)))) w) (hd : okd n dst = true := by rfl) : lw P n ops (⟨dst, .unOp .not t x, ty, pos, aft, none⟩ :: rest) K ρ w := zA hd (zBx hx) h
theorem Js {x : Operand} {t e : TypeId} {a : Option Addr} {n9 c : Nat} (ht : P.underlying t = some (.slice e)) (hx : ev ρ x = .slice a n9 c) (h : lw P n ops rest K (updo ρ dst ((.int .i64 n9))) w) (hd : okd n dst = true := by rfl) : lw P n ops (⟨dst, .call { callee := .builtin .len, args := #[x], argTypes := #[t] }, ty, pos, aft, none⟩ :: rest) K ρ w := zA hd (zAu ht hx) h
theorem Jt (hx : ev ρ x = .int k a) (hy : ev ρ y = .int k b) (h : lw P n ops rest K (updo ρ dst ((.bool (decide (b < a))))) w) (hd : okd n dst = true := by rfl) : lw P n ops (⟨dst, .binOp .gtr t x y u, ty, pos, aft, none⟩ :: rest) K ρ w := zA hd (zBn hx hy) h
theorem Jw (hx : ev ρ x = .int k a) (hy : ev ρ y = .int k b) (h : lw P n ops rest K (updo ρ dst ((.bool (decide (a = b))))) w) (hd : okd n dst = true := by rfl) : lw P n ops (⟨dst, .binOp .eql t x y u, ty, pos, aft, none⟩ :: rest) K ρ w := zA hd (zBq hx hy) h
theorem Jx {x : Operand} {a : Addr} (hx : ev ρ x = .pointer (some a)) (h : lw P n ops rest K (updo ρ dst ((.pointer (some a)))) w) (hd : okd n dst = true := by rfl) : lw P n ops (⟨dst, .nilCheck x, ty, pos, aft, none⟩ :: rest) K ρ w := zA hd (zA8 hx) h
theorem Q7 (i0 : Nat) {x : Operand} {a : Addr} (hi : ops[i0]? = some ⟨dst, .nilCheck x, ty, pos, aft, none⟩) (hx : ev ρ x = .pointer (some a)) (hS : S w) (h : aw P n ops S fuel (listed.setIfInBounds i0 true) K (updo ρ dst ((.pointer (some a)))) w) (hd : okd n dst = true := by rfl) (hs : Region.noSelect ops = true := by kernel_rfl) (hf : Region.free .any ops listed i0 = true := by kernel_rfl) (hr : (Region.ready .any ops listed).contains i0 = true := by kernel_rfl) : aw P n ops S (fuel + 1) listed K ρ w := zA3 i0 hi hd (fun w _ => zA8 hx) hS h hs hf hr
theorem Jy {c : Int} (hs_ : P.underlying t = some (.int k2)) (hd_ : P.underlying u = some (.int k)) (hx : ev ρ x = .int k2 a) (hc : k.wrap a = c) (h : lw P n ops rest K (updo ρ dst ((.int k c))) w) (hd : okd n dst = true := by rfl) : lw P n ops (⟨dst, .convert t u x, ty, pos, aft, none⟩ :: rest) K ρ w := zA hd (zAt hs_ hd_ hx hc) h
theorem Q9 (i0 : Nat) {c : Int} (hi : ops[i0]? = some ⟨dst, .convert t u x, ty, pos, aft, none⟩) (hs_ : P.underlying t = some (.int k2)) (hd_ : P.underlying u = some (.int k)) (hx : ev ρ x = .int k2 a) (hc : k.wrap a = c) (hS : S w) (h : aw P n ops S fuel (listed.setIfInBounds i0 true) K (updo ρ dst ((.int k c))) w) (hd : okd n dst = true := by rfl) (hs : Region.noSelect ops = true := by kernel_rfl) (hf : Region.free .any ops listed i0 = true := by kernel_rfl) (hr : (Region.ready .any ops listed).contains i0 = true := by kernel_rfl) : aw P n ops S (fuel + 1) listed K ρ w := zA3 i0 hi hd (fun w _ => zAt hs_ hd_ hx hc) hS h hs hf hr
theorem Qa {v : Value} {w' : World} (hr : (execOp (ev ρ) ⟨dst, op, ty, pos, aft, none⟩).run P w = .ok (.value v) w') (h : lw P n ops rest K (updo ρ dst v) w') (hd : okd n dst = true := by rfl) : lw P n ops (⟨dst, op, ty, pos, aft, none⟩ :: rest) K ρ w := zA hd hr h
theorem Qb (i0 : Nat) {v : Value} (hi : ops[i0]? = some ⟨dst, op, ty, pos, aft, none⟩) (hy : ∀ w, S w → (execOp (ev ρ) ⟨dst, op, ty, pos, aft, none⟩).run P w = .ok (.value v) w) (hS : S w) (h : aw P n ops S fuel (listed.setIfInBounds i0 true) K (updo ρ dst v) w) (hd : okd n dst = true := by rfl) (hs : Region.noSelect ops = true := by kernel_rfl) (hf : Region.free .any ops listed i0 = true := by kernel_rfl) (hr : (Region.ready .any ops listed).contains i0 = true := by kernel_rfl) : aw P n ops S (fuel + 1) listed K ρ w := zA3 i0 hi hd hy hS h hs hf hr
theorem Qc {x : Operand} {t : TypeId} {d : TypeDesc} {b o : Nat} {v : Value} {cs : List Value} {T : TypeId} (ht : P.underlying t = some d) (hx : ev ρ x = .pointer (some ⟨b, o, none⟩)) (hs : Mem g w L) (i : Nat) (hi : L[i]? = some (cells b cs T)) (hc : cs[o]? = some v) (h : lw P n ops rest K (updo ρ dst v) w) (hd : okd n dst = true := by rfl) (hp : plainD d = true := by rfl) : lw P n ops (⟨dst, .load t x, ty, pos, aft, none⟩ :: rest) K ρ w := zA hd (zA7 ht hp hx (hs.cellAt i hi hc)) h
theorem Qd (i0 : Nat) {x : Operand} {t : TypeId} {d : TypeDesc} {b o : Nat} {v : Value} (hi : ops[i0]? = some ⟨dst, .load t x, ty, pos, aft, none⟩) (ht : P.underlying t = some d) (hx : ev ρ x = .pointer (some ⟨b, o, none⟩)) (hc : ∀ w, S w → w.cell? ⟨b, o, none⟩ = some v) (hS : S w) (h : aw P n ops S fuel (listed.setIfInBounds i0 true) K (updo ρ dst v) w) (hd : okd n dst = true := by rfl) (hp : plainD d = true := by rfl) (hs : Region.noSelect ops = true := by kernel_rfl) (hf : Region.free .any ops listed i0 = true := by kernel_rfl) (hr : (Region.ready .any ops listed).contains i0 = true := by kernel_rfl) : aw P n ops S (fuel + 1) listed K ρ w := zA3 i0 hi hd (fun w h => zA7 ht hp hx (hc w h)) hS h hs hf hr
theorem Qe {j d : Nat} {b t : Bool} (hj : (ops[j]?).bind (·.dst) = some d) (hv : ρ d = .bool t) (ht : t = !b) (h : lw P n ops rest K (updo ρ dst undef) w) (hd : okd n dst = true := by rfl) : lw P n ops (⟨dst, op, ty, pos, aft, some (j, b)⟩ :: rest) K ρ w := zAb hd hj hv ht h
theorem Qf {j d : Nat} {b : Bool} (hj : (ops[j]?).bind (·.dst) = some d) (hv : ρ d = .bool (!b)) (h : lw P n ops rest K (updo ρ dst undef) w) (hd : okd n dst = true := by rfl) : lw P n ops (⟨dst, op, ty, pos, aft, some (j, b)⟩ :: rest) K ρ w := zAb hd hj hv rfl h
end
theorem zBd (hs : Mem g w L) (i : Nat) {x : Operand} {t : TypeId} {b : Nat} {cs : List Value} {T : TypeId} (hi : L[i]? = some (cells b cs T)) {fs : Array Field} (ht : P.underlying t = some (.struct fs)) (hsz : (P.info? t).map (·.size) = some cs.length) (hx : ev ρ x = .pointer (some ⟨b, 0, none⟩)) :
    (execOp (ev ρ) ⟨dst, .load t x, ty, pos, aft, none⟩).run P w = .ok (.value (.agg cs.toArray)) w := by
  obtain ⟨F, h1, _⟩ := hs.read hi
  have hagg : (isAgg t).run P w = .ok true w := by simp [isAgg, run_underlying ht]
  have := zEl (P := P) (T := t) (vs := cs.toArray) hagg (by simpa using hsz) h1
  simp [execOp, Instr.loadAt, hx, Instr.sureAddr, this]
theorem zB0 (hs : Mem g w L) (i : Nat) {x y : Operand} {t : TypeId} {b o : Nat} {cs : List Value} {T : TypeId} {v : Value} (hi : L[i]? = some (cells b cs T)) (hsz : (P.info? t).map (·.size) = some 1) (hx : ev ρ x = .pointer (some ⟨b, o, none⟩)) (hy : ev ρ y = v) (ho : Nat.blt o cs.length = true) (h1 : v.oneCell' = true)
    (h : ∀ w', Mem g w' (L.set i (cells b (cs.set o v) T)) → lw P n ops rest K ρ w') : lw P n ops (⟨none, .store t x y, ty, pos, aft, none⟩ :: rest) K ρ w := by
  obtain ⟨F, ⟨g1, g2⟩, g3⟩ := hs.turn hi
  have ho' : o < cs.length := by simpa using ho
  have hcell : w.cell? ⟨b, o, none⟩ = some cs[o] := zCc g1 (by simp [ho']); have hfree : w.frozen? ⟨b, o, none⟩ = false := free_at g1; obtain ⟨inf, hinf, hsz⟩ := Option.map_eq_some_iff.1 hsz
  have hst : (storeVar t ⟨b, o, none⟩ v).run P w = .ok () (w.setCell ⟨b, o, none⟩ v) := by
    cases v <;> first
      | (simp [Value.oneCell'] at h1; done)
      | simp [storeVar, sizeOf, typeInfo, hinf, hsz, Value.cells, storeCells, store, Sem.run, hcell, hfree, Addr.add]
  refine lw_skip rfl (w' := w.setCell ⟨b, o, none⟩ v) ?_ (h _ (g3 _ (cells b (cs.set o v) T) F ⟨?_, g2⟩ (fun b hb => .inl hb) ((Keeps.refl _ _).setCell _ _ fun _ => (g2 b).2 rfl)))
  · simp [execOp, hx, hy, Instr.storeAt, Instr.sureAddr, hst]
  · have := zF (i := o) (v := v) g1
    rw [this]
    simp
theorem zAr (hs : Mem g w L) (i : Nat) {x y : Operand} {t : TypeId} {b : Nat} {cs vs : List Value} {T : TypeId} (hi : L[i]? = some (cells b cs T)) (hx : ev ρ x = .pointer (some ⟨b, 0, none⟩)) (hy : ev ρ y = .agg vs.toArray) (hsz : (P.info? t).map (·.size) = some vs.length) (hl : cs.length = vs.length) (h1 : vs.all (·.oneCell') = true)
    (h : ∀ w', Mem g w' (L.set i (cells b vs T)) → lw P n ops rest K ρ w') : lw P n ops (⟨none, .store t x y, ty, pos, aft, none⟩ :: rest) K ρ w := fun a ha => by
  obtain ⟨F, ⟨g1, g2⟩, g3⟩ := hs.turn hi
  refine zE4 rfl t x y rfl b vs.toArray (by rw [ha.eval]; exact hx) (by rw [ha.eval]; exact hy) g1 (by simpa using hsz) (by simpa using hl) (by simpa using h1) fun w' k1 k2 _ => ?_
  exact h w' (g3 w' (cells b vs T) F ⟨k1, g2⟩ (fun b hb => .inl hb) (k2.mono fun x _ e => (g2 x).2 e)) _ ha
theorem Mem.new (hs : Mem g w L) (cs : List Value) (T : TypeId) : Mem g (w.alloc (.cells cs.toArray T)) (cells w.heap.size cs T :: L) :=
  hs.add (F' := fun x => x = w.heap.size) ⟨World.alloc_heap_new w _, fun _ => Iff.rfl⟩ (fun _ h => Nat.le_of_eq h.symm) ((Keeps.refl _ _).alloc _)
theorem zBp (hs : Mem g w L) (hd : okd n dst = true) {x : Operand} {t : TypeId} {v : Value} (hx : ev ρ x = v) (h : ∀ b w', Mem g w' (cells b v.cells.toList t :: L) → lw P n ops rest K (updo ρ dst (.pointer (some ⟨b, 0, none⟩))) w') :
    lw P n ops (⟨dst, .box t x, ty, pos, aft, none⟩ :: rest) K ρ w := by
  refine zA hd (v := .pointer (some ⟨w.heap.size, 0, none⟩)) (w' := w.alloc (.cells v.cells t)) ?_ (h _ _ ?_)
  · subst hx; rfl
  · simpa using hs.new v.cells.toList t
theorem zBj (hs : Mem g w L) (hd : okd n dst = true) {t : TypeId} {z : Value} (hz : (P.info? t).map (·.zero) = some (some z)) (h : ∀ b w', Mem g w' (cells b z.cells.toList t :: L) → lw P n ops rest K (updo ρ dst (.pointer (some ⟨b, 0, none⟩))) w') :
    lw P n ops (⟨dst, .alloc t, ty, pos, aft, none⟩ :: rest) K ρ w := by
  obtain ⟨inf, hinf, hz⟩ := Option.map_eq_some_iff.1 hz; refine zA hd (v := .pointer (some ⟨w.heap.size, 0, none⟩)) (w' := w.alloc (.cells z.cells t)) ?_ (h _ _ ?_)
  · simp [execOp, Instr.alloc, zeroValue, typeInfo, hinf, hz, newVar, newRow]
  · simpa using hs.new z.cells.toList t
theorem zBw {t : TypeId} {ps : List (Nat × Operand)} {fs : Array Field} {z : Value} {places : Array (Nat × Nat)} {cs : List Value} (ht : P.underlying t = some (.struct fs)) (hz : (P.info? t).map (·.zero) = some (some z))
    (hp : ∀ w, (fs.mapM (m := Sem) fun f => do pure (f.offset, ← sizeOf f.type)).run P w = .ok places w) (hf : Instr.fill (places[·]?) z.cells (ps.map fun p => (p.1, ev ρ p.2)) = some cs.toArray) :
    (execOp (ev ρ) ⟨dst, .build t ps.toArray, ty, pos, aft, none⟩).run P w = .ok (.value (.agg cs.toArray)) w := by
  obtain ⟨inf, hinf, hz⟩ := Option.map_eq_some_iff.1 hz
  have hl : (ps.toArray.map fun (p : Nat × Operand) => (p.1, ev ρ p.2)).toList = ps.map fun p => (p.1, ev ρ p.2) := by simp
  have e : (fun (x : Nat × Operand) => match x with | (i, x) => (i, ev ρ x)) = fun p => (p.1, ev ρ p.2) := by funext ⟨_, _⟩; rfl
  have hzv : (zeroValue t).run P w = .ok z w := by simp [zeroValue, typeInfo, hinf, hz]
  simp only [execOp, e, Instr.build, Sem.run_bind, hzv, Result.andThen_ok, run_underlying ht, hp, hl, hf, Sem.run_pure]
theorem fill_congr {f g : Nat → Option (Nat × Nat)} : ∀ (l : List (Nat × Value)) (cells : Array Value), (∀ p ∈ l, f p.1 = g p.1) → Instr.fill f cells l = Instr.fill g cells l
  | [], _, _ => rfl
  | (i, v) :: l, cells, h => by
    have h1 := h (i, v) (.head _); simp only [Instr.fill]; rw [show f i = g i from h1]
    cases g i with
    | none => rfl
    | some p => simp only []; split
                · rfl
                · exact fill_congr l _ fun p hp => h p (.tail _ hp)
theorem zBg {t : TypeId} {ps : List (Nat × Operand)} {fs : Array Field} {z : Value} {places : Array (Nat × Nat)} (vs : List Value) (ht : P.underlying t = some (.struct fs)) (hz : (P.info? t).map (·.zero) = some (some z))
    (hp : ∀ w, (fs.mapM (m := Sem) fun f => do pure (f.offset, ← sizeOf f.type)).run P w = .ok places w) (hps : (ps.map fun p => (p.1, ev ρ p.2)) = (vs.zipIdx 0).map fun x => (x.2, x.1)) (h1 : ∀ u ∈ vs, u.cells = #[u]) (hn : vs.length = z.cells.size) (hpl : ((List.range vs.length).all fun i => places[i]? == some (i, 1)) = true) :
    (execOp (ev ρ) ⟨dst, .build t ps.toArray, ty, pos, aft, none⟩).run P w = .ok (.value (.agg vs.toArray)) w := by
  refine zBw ht hz hp ?_; rw [hps, fill_congr (g := fun i => some (i * 1, 1))]
  · exact Great.fill_flat vs _ h1 hn
  · rintro ⟨i, v⟩ hm
    simp only [List.mem_map, Prod.mk.injEq] at hm; obtain ⟨⟨u, j⟩, hu, rfl, rfl⟩ := hm; have hj := List.mem_zipIdx hu; have := List.all_eq_true.1 hpl j (by simp; omega)
    simpa using this
theorem zB4 (hs : Mem g w L) (hd : okd n dst = true) {t e : TypeId} {len : Nat} {ps : List (Nat × Operand)} {z : Value} (vs : List Value) (ht : P.underlying t = some (.slice e)) (hsz : (P.info? e).map (fun i => (i.zero, i.size)) = some (some z, 1))
    (hp : (ps.map fun p => (p.1, ev ρ p.2)) = (vs.zipIdx 0).map fun x => (x.2, x.1)) (h1 : ∀ u ∈ vs, u.cells = #[u]) (hlen : len = vs.length) (hpos : Nat.blt 0 len = true) (hsmall : Nat.ble len 16777216 = true)
    (h : ∀ b w', Mem g w' (cells b vs e :: L) → lw P n ops rest K (updo ρ dst (.slice (some ⟨b, 0, none⟩) len len)) w') :
    lw P n ops (⟨dst, .buildSlice t len ps.toArray, ty, pos, aft, none⟩ :: rest) K ρ w := by
  obtain ⟨inf, hinf, hz⟩ := Option.map_eq_some_iff.1 hsz; simp only [Prod.mk.injEq] at hz; refine zA hd (v := .slice (some ⟨w.heap.size, 0, none⟩) len len) (w' := w.alloc (.cells vs.toArray e)) ?_ (h _ _ (hs.new vs e))
  have hl : (ps.toArray.map fun (p : Nat × Operand) => (p.1, ev ρ p.2)).toList = ps.map fun p => (p.1, ev ρ p.2) := by simp
  have e1 : (fun (x : Nat × Operand) => match x with | (i, x) => (i, ev ρ x)) = fun p => (p.1, ev ρ p.2) := by funext ⟨_, _⟩; rfl
  have hr := run_buildSlice (P := P) w t e len (ps.toArray.map fun (p : Nat × Operand) => (p.1, ev ρ p.2)) vs.toArray inf z ht hinf hz.1 (by rw [hz.2]; have := (show len ≤ 16777216 by simpa using hsmall); omega) (by rw [hz.2]; have := (show 0 < len by simpa using hpos); omega)
    (by rw [hl, hp, hz.2]; exact Great.fill_flat _ _ h1 (by simp [hlen]))
  simp only [execOp, e1, Sem.run_bind, hr, Result.andThen_ok, Sem.run_pure]
def rd (v : Value) (l : List Value) : HP where
  ok F w := zEs w v l ∧ (∀ x, blk v = some x → x < w.heap.size) ∧ ∀ x, F x ↔ blk v = some x
  loc := fun {F w w'} ⟨h, hb, hF⟩ k => ⟨h.heap fun b hb => k b ((hF b).2 hb), fun x hx => by
    have h1 := hb x hx; have h2 := k x ((hF x).2 hx); rw [Array.getElem?_eq_getElem h1] at h2
    exact (Array.getElem?_eq_some_iff.1 h2).1, hF⟩
  lt := fun ⟨_, hb, hF⟩ h => hb _ ((hF _).1 h)
theorem Rd.rd {v : Value} {l : List Value} (i : Nat) (hi : L[i]? = some (rd v l)) : Rd g L v l := Ens.of i hi fun _ _ h => h.1
theorem ownV_cells {w : World} {b : Nat} {cs : List Value} {T : TypeId} (h : w.heap[b]? = some (.cells cs.toArray T (0, 0))) {n : Nat} (hn : n = cs.length) : ownV w (.slice (some ⟨b, 0, none⟩) n n) cs := by
  subst hn; exact ⟨_, _, _, rfl, rfl, Nat.le_refl _, ⟨(fun h => by cases h), (fun x hx => by simp only [blk, Option.some.injEq] at hx; subst hx; exact lt_of_block h)⟩, .inr ⟨b, 0, cs.toArray, T, rfl, h, by simp, fun i hi => by simp⟩⟩
theorem Rd.cells {b : Nat} {cs : List Value} {T : TypeId} (i : Nat) (hi : L[i]? = some (cells b cs T)) {n : Nat} (hn : n = cs.length) : Rd g L (.slice (some ⟨b, 0, none⟩) n n) cs := Ens.of i hi fun _ _ h => (ownV_cells h.1 hn).seq
theorem lw_constBytes (hs : Mem g w L) (hd : okd n dst = true) (i : Nat) {x : Operand} {t e : TypeId} {b len : Nat} {cs : List Value} {T : TypeId} (hi : L[i]? = some (cells b cs T)) (hn : len = cs.length) (ht : P.underlying t = some (.slice e)) (he : P.underlying e = some (.int .u8)) (hx : ev ρ x = .slice (some ⟨b, 0, none⟩) len len)
    (h : ∀ w', Mem g w' (L.set i (rd (.slice (some ⟨b, 0, none⟩) len len) cs)) → lw P n ops rest K (updo ρ dst (.slice (some ⟨b, 0, none⟩) len len)) w') :
    lw P n ops (⟨dst, .convert t t x, ty, pos, aft, none⟩ :: rest) K ρ w := by
  obtain ⟨F, ⟨g1, g2⟩, g3⟩ := hs.turn hi
  have hsh : w.shape? b = some (T, cs.length) := by simp [World.shape?, g1]
  have hlt := lt_of_block g1
  have hfr : (w.freeze ⟨b, cs.length, none⟩ 1).heap[b]? = some (.cells cs.toArray T (cs.length, cs.length + 1)) := by
    have h' : w.heap[b] = .cells cs.toArray T (0, 0) := by simpa [Array.getElem?_eq_getElem hlt] using g1
    simp only [World.freeze, Nat.one_ne_zero, if_false]; rw [Array.getElem?_eq_getElem (by simpa using hlt), Array.getElem_modify_self, h']
    simp
  have hk : Keeps (· = b) w (w.freeze ⟨b, cs.length, none⟩ 1) := by
    refine ⟨rfl, rfl, rfl, by simp [World.freeze], fun k hk hne => ?_⟩; simp only [World.freeze, Nat.one_ne_zero, if_false]; rw [Array.getElem?_modify, if_neg (fun e => hne e.symm)]
  refine zA hd (v := .slice (some ⟨b, 0, none⟩) len len) (w' := w.freeze ⟨b, cs.length, none⟩ 1) ?_ (h _ (g3 _ _ F ⟨?_, ?_, fun x => by rw [g2 x]; simp [blk, eq_comm]⟩ (fun _ h => .inl h) (hk.mono fun x _ e => (g2 x).2 e)))
  · simp [execOp, convert, run_underlying ht, run_underlying he, hx, markStringish, shape, freeze, Sem.run, hsh]
  · subst hn
    exact ⟨_, _, _, rfl, rfl, Nat.le_refl _, (fun h => by cases h), .inr ⟨b, 0, cs.toArray, T, _, rfl, hfr, by simp, fun i hi => by simp⟩⟩
  · intro x hx
    simp only [blk, Option.some.injEq] at hx; subst hx; have := hk.size
    omega
def mapC {κ : Type} (enc : κ → Value) (m : Nat) (es : List (κ × Value)) : HP where
  ok F w := zF2 w enc m es ∧ ∀ x, F x ↔ x = m
  loc := fun {F w w'} ⟨⟨arr, clock, hb, r⟩, hF⟩ k => ⟨⟨arr, clock, (k m ((hF m).2 rfl)).trans hb, r⟩, hF⟩
  lt := fun ⟨h, hF⟩ hb => by rw [(hF _).1 hb]; exact h.lt
theorem zFp {κ : Type} (enc : κ → Value) (hs : Mem g w L) (hd : okd n dst = true) {t : TypeId} (h : ∀ m w', Mem g w' (mapC enc m [] :: L) → lw P n ops rest K (updo ρ dst (.map (some m))) w') :
    lw P n ops (⟨dst, .makeMap t none, ty, pos, aft, none⟩ :: rest) K ρ w := by
  refine zA hd (v := .map (some w.heap.size)) (w' := w.alloc (.map #[] 0)) ?_ (h _ _ (hs.add (F' := fun x => x = w.heap.size) ⟨zF2.made w enc, fun _ => Iff.rfl⟩ (fun _ h => Nat.le_of_eq h.symm) ((Keeps.refl _ _).alloc _)))
  simp [execOp, run_makeMap]
section
variable {κ : Type} [DecidableEq κ] {d : TypeDesc} {enc : κ → Value} {T kt et : TypeId} {m : Nat} {es : List (κ × Value)} {x y z : Operand} {k : κ}
omit [DecidableEq κ] in
theorem Mem.mapAt (hs : Mem g w L) (i : Nat) (hi : L[i]? = some (mapC enc m es)) : zF2 w enc m es := by
  obtain ⟨F, h1, _⟩ := hs.read hi; exact h1
theorem zDx (hm : zF2 w enc m es) (kk : KeyKind d enc) (hT : P.underlying T = some (.map kt et)) (hk : P.underlying kt = some d) {v : Value} (hz : (P.info? et).map (·.zero) = some (some v)) (hx : ev ρ x = .map (some m)) (hy : ev ρ y = enc k) {o : Option Value} (ho : zAx es k = o) :
    (execOp (ev ρ) ⟨dst, .lookup T x y false, ty, pos, aft, none⟩).run P w = .ok (.value (o.getD v)) w := by
  subst ho; obtain ⟨inf, hinf, hz⟩ := Option.map_eq_some_iff.1 hz
  have hz' : (zeroValue et).run P w = .ok v w := by simp [zeroValue, typeInfo, hinf, hz]
  simp [execOp, hx, hy, run_lookup_at kk hT hk hm k hz' false]
theorem zE2 (hm : zF2 w enc m es) (kk : KeyKind d enc) (hT : P.underlying T = some (.map kt et)) (hk : P.underlying kt = some d) {v : Value} (hz : (P.info? et).map (·.zero) = some (some v)) (hx : ev ρ x = .map (some m)) (hy : ev ρ y = enc k) {o : Option Value} (ho : zAx es k = o) :
    (execOp (ev ρ) ⟨dst, .lookup T x y true, ty, pos, aft, none⟩).run P w = .ok (.value (.tuple #[o.getD v, .bool o.isSome])) w := by
  subst ho; obtain ⟨inf, hinf, hz⟩ := Option.map_eq_some_iff.1 hz
  have hz' : (zeroValue et).run P w = .ok v w := by simp [zeroValue, typeInfo, hinf, hz]
  simp [execOp, hx, hy, run_lookup_at kk hT hk hm k hz' true]
theorem zDq (hs : Mem g w L) (i : Nat) (hi : L[i]? = some (mapC enc m es)) (kk : KeyKind d enc) (hT : P.underlying T = some (.map kt et)) (hk : P.underlying kt = some d) {v : Value} (hx : ev ρ x = .map (some m)) (hy : ev ρ y = enc k) (hv : ev ρ z = v)
    (h : ∀ w', Mem g w' (L.set i (mapC enc m (zC1 es k v))) → lw P n ops rest K ρ w') : lw P n ops (⟨none, .mapUpdate T x y z, ty, pos, aft, none⟩ :: rest) K ρ w := by
  obtain ⟨F, ⟨g1, g2⟩, g3⟩ := hs.turn hi; obtain ⟨o, hr, hm⟩ := run_update_at kk hT hk g1 k v; refine lw_skip rfl (w' := w.putObj m o) ?_ (h _ (g3 _ _ F ⟨hm, g2⟩ (fun _ h => .inl h) ((Keeps.refl _ _).putObj m o fun _ => (g2 m).2 rfl)))
  simp [execOp, hx, hy, hv, hr]
theorem lw_delete (hs : Mem g w L) (hd : okd n dst = true) (i : Nat) (hi : L[i]? = some (mapC enc m es)) (kk : KeyKind d enc) (hT : P.underlying T = some (.map kt et)) (hk : P.underlying kt = some d) (hx : ev ρ x = .map (some m)) (hy : ev ρ y = enc k)
    (h : ∀ w', Mem g w' (L.set i (mapC enc m (zDe es k))) → lw P n ops rest K (updo ρ dst (.tuple #[])) w') : lw P n ops (⟨dst, .call { callee := .builtin .delete, args := #[x, y], argTypes := #[T, kt] }, ty, pos, aft, none⟩ :: rest) K ρ w := by
  obtain ⟨F, ⟨g1, g2⟩, g3⟩ := hs.turn hi; obtain ⟨o, hr, hm⟩ := run_delete_at kk hT hk g1 k ty; refine zA hd (v := .tuple #[]) (w' := w.putObj m o) ?_ (h _ (g3 _ _ F ⟨hm, g2⟩ (fun _ h => .inl h) ((Keeps.refl _ _).putObj m o fun _ => (g2 m).2 rfl)))
  have hmm : (#[x, y] : Array Operand).map (ev ρ) = #[ev ρ x, ev ρ y] := by simp
  simp only [execOp, resolve, invoke, builtin, hmm, hx, hy, Sem.run_bind, Sem.run_pure, hr, Result.andThen_ok]
end
theorem zD3 (hs : Mem g w L) (hd : okd n dst = true) (i : Nat) {x y : Operand} {t tx e : TypeId} {v xv : Value} {xs news : List Value} (hi : L[i]? = some (own v xs)) {z : Value} {by_ : Nat} (ht : P.underlying t = some (.slice e)) (hsz : (P.info? e).map (fun i => (i.zero, i.size, i.bytes)) = some (some z, 1, by_)) (hzc : z.cells.size = 1)
    (hx : ev ρ x = v) (hy : ev ρ y = xv) (hsrc : Src P 1 tx xv news.length news w) (hb : (xs.length + news.length) * by_ ≤ 140737488355328) (hlen : xs.length + news.length ≤ 9223372036854775807)
    (h : ∀ a c w', Mem g w' (L.set i (own (.slice a (xs.length + news.length) c) (xs ++ news))) → lw P n ops rest K (updo ρ dst (.slice a (xs.length + news.length) c)) w') :
    lw P n ops (⟨dst, .call { callee := .builtin .append, args := #[x, y], argTypes := #[t, tx] }, ty, pos, aft, none⟩ :: rest) K ρ w := by
  obtain ⟨inf, hinf, hz⟩ := Option.map_eq_some_iff.1 hsz; simp only [Prod.mk.injEq] at hz; obtain ⟨F, ⟨g1, g2⟩, g3⟩ := hs.turn hi; obtain ⟨v', w', hrun, k1, k2, k3, _⟩ := run_append_any (ty := ty) ht hinf hz.1 hz.2.1 hzc g1 hsrc (by rw [hz.2.2]; exact hb) hlen; obtain ⟨a, m, c, rfl, hm, k4⟩ := id k1
  have hm' : m = xs.length + news.length := by simpa using hm
  subst hm'; refine zA hd (v := .slice a (xs.length + news.length) c) (w' := w') ?_ (h a c w' (g3 w' _ (fun x => blk (.slice a (xs.length + news.length) c) = some x) ⟨k1, fun _ => Iff.rfl⟩ (fun b hb => ?_) (k2.mono fun x _ e => (g2 x).2 e)))
  · subst hx hy
    simp only [execOp, resolve, invoke, builtin]
    have hmm : (#[x, y] : Array Operand).map (ev ρ) = #[ev ρ x, ev ρ y] := by simp
    simp only [hmm, Sem.run_bind, Sem.run_pure, hrun, Result.andThen_ok]
  · rcases k3 with ⟨rfl, _, _⟩ | ⟨e, _⟩ | e
    · exact .inl ((g2 b).2 hb)
    · exact .inl ((g2 b).2 (e ▸ hb))
    · rw [e] at hb; cases hb; exact .inr (Nat.le_refl _)
def Ret (R : Value → World → Prop) (e : Ending) (w' : World) : Prop := ∃ v, e = .returned v ∧ R v w'
theorem run_enter {f : FuncId} {xs : List Operand} {ats : Array TypeId} (hf : ∀ args w, (callFunc f args).run P w = .ok (.enter f args) w) :
    (execOp (ev ρ) ⟨dst, .call { callee := .value (.func f), args := xs.toArray, argTypes := ats }, ty, pos, aft, none⟩).run P w = .ok (.enter f (xs.map (ev ρ)).toArray) w := by
  have hm : (xs.toArray.map (ev ρ)) = (xs.map (ev ρ)).toArray := by simp
  simp only [execOp, resolve, ev, hm, Deferred.ofValue, Sem.run_bind, Sem.run_pure, Result.andThen_ok, invoke]
  simp [hf]
theorem zAa (hd : okd n dst = true) {f : FuncId} {xs : List Operand} {ats : Array TypeId} {R : Value → World → Prop} (hf : ∀ args w, (callFunc f args).run P w = .ok (.enter f args) w)
    (hc : Calls P f (xs.map (ev ρ)).toArray w (Ret R)) (h : ∀ v w', R v w' → lw P n ops rest K (updo ρ dst v) w') :
    lw P n ops (⟨dst, .call { callee := .value (.func f), args := xs.toArray, argTypes := ats }, ty, pos, aft, none⟩ :: rest) K ρ w :=
  lw_enter hd (run_enter hf) hc h
section
variable {P : Program} {n : Nat} {ops : Array Oper} {rest : List Oper} {K : Env → World → Prop} {ρ : Env} {g w : World} {L : List HP} {dst : Option Tmp} {op : Op} {ty : TypeId} {pos : String} {aft : Array Edge} {S : World → Prop} {fuel : Nat} {listed : Array Bool} {x y : Operand} {t u : TypeId} {k k2 : IntKind} {a b : Int}
theorem Qg {f : FuncId} {xs : List Operand} {ats : Array TypeId} {R : Value → World → Prop} (hf : EN P f) (hc : Calls P f (xs.map (ev ρ)).toArray w (Ret R)) (h : ∀ v w', R v w' → lw P n ops rest K (updo ρ dst v) w') (hd : okd n dst = true := by rfl) : lw P n ops (⟨dst, .call { callee := .value (.func f), args := xs.toArray, argTypes := ats }, ty, pos, aft, none⟩ :: rest) K ρ w := zAa hd hf hc h
end
theorem zGv (hd : okd n dst = true) {f : FuncId} {cap : Array Value} {t : Tmp} {xs : List Operand} {ats : Array TypeId} {R : Value → World → Prop} (hf : ∀ args w, (callFunc f args).run P w = .ok (.enter f args) w) (hx : ρ t = .func (.func f) #[] cap)
    (hc : Calls P f ((xs.map (ev ρ)).toArray ++ cap) w (Ret R)) (h : ∀ v w', R v w' → lw P n ops rest K (updo ρ dst v) w') :
    lw P n ops (⟨dst, .call { callee := .value (.tmp t), args := xs.toArray, argTypes := ats }, ty, pos, aft, none⟩ :: rest) K ρ w := by
  refine lw_enter hd ?_ hc h
  have hm : (xs.toArray.map (ev ρ)) = (xs.map (ev ρ)).toArray := by simp
  simp only [execOp, resolve, ev, hx, hm, Deferred.ofValue, Sem.run_bind, Sem.run_pure, Result.andThen_ok, invoke]
  simp [hf]
theorem zEq (hd : okd n dst = true) {f : FuncId} {cap : Array Value} {t : Tmp} {ats : Array TypeId} {R : Value → World → Prop} (hf : ∀ args w, (callFunc f args).run P w = .ok (.enter f args) w) (hx : ρ t = .func (.func f) #[] cap)
    (hc : Calls P f cap w (Ret R)) (h : ∀ v w', R v w' → lw P n ops rest K (updo ρ dst v) w') :
    lw P n ops (⟨dst, .call { callee := .value (.tmp t), args := #[], argTypes := ats }, ty, pos, aft, none⟩ :: rest) K ρ w :=
  zGv (xs := []) hd hf hx (by simpa using hc) h
theorem Mem.calls {f : FuncId} {args : Array Value} {v : Value} (hs : Mem g w L) (h : Calls P f args w fun e w' => e = .returned v ∧ Below w.heap.size w w') : Calls P f args w (Ret fun v' w' => v' = v ∧ Mem g w' L) :=
  h.mono fun _ _ ⟨h1, h2⟩ => ⟨v, h1, rfl, hs.below h2⟩
theorem Mem.callsE {f : FuncId} {args : Array Value} {v : Value} (hs : Mem g w L) (h : Calls P f args w fun e w' => e = .returned v ∧ w = w') : Calls P f args w (Ret fun v' w' => v' = v ∧ Mem g w' L) :=
  h.mono fun _ _ ⟨h1, h2⟩ => ⟨v, h1, rfl, h2 ▸ hs⟩
theorem zCs {e : Bool} (h : e = false) : (!e) = true := by rw [h]; rfl
theorem zBt {e : Bool} (h : e = true) : (!e) = false := by rw [h]; rfl
theorem zFc {e : Bool} (h : (!e) = true) : e = false := by cases e <;> simp_all
theorem zEr {e : Bool} (h : (!e) = false) : e = true := by cases e <;> simp_all
theorem zFj {p : Prop} [Decidable p] (h : (!decide p) = true) : ¬ p := by simpa using h
theorem zFi {p : Prop} [Decidable p] (h : (!decide p) = false) : p := by simpa using h
theorem inI {n : Int} (h1 : -9223372036854775808 ≤ n) (h2 : n ≤ 9223372036854775807) : zDo n := ⟨h1, h2⟩
theorem zEk {l : List Value} (h : ∀ u ∈ l, u.oneCell' = true) : ∀ u ∈ l, u.cells = #[u] := fun u hu => by
  have := h u hu
  cases u <;> first | rfl | (simp [Value.oneCell'] at this)
theorem zDr {a b : Bool} (h : a = b) : Value.bool a = Value.bool b := by rw [h]
theorem bool_split {p : Prop} {t : Bool} (h1 : t = true → p) (h0 : t = false → p) : p := (Bool.eq_false_or_eq_true t).elim h1 h0
theorem zB3 {l : List Oper} {d : Nat} {t : Bool} (_ : ρ d = .bool t) (h1 : t = true → lw P n ops l K ρ w) (h0 : t = false → lw P n ops l K ρ w) : lw P n ops l K ρ w := bool_split h1 h0
theorem zGu {S : World → Prop} {fuel : Nat} {listed : Array Bool} {d : Nat} {t : Bool} (_ : ρ d = .bool t) (h1 : t = true → aw P n ops S fuel listed K ρ w) (h0 : t = false → aw P n ops S fuel listed K ρ w) : aw P n ops S fuel listed K ρ w := bool_split h1 h0
theorem zAq {N R : Post} {B : List (Nat × Post)} {id : Nat} {l : List Oper} {M : List HP} (hm : P.follows .mixedOrders = true) (hs : Mem g w M) (h : ∀ w1, (∀ L, Mem g w L → Mem g w1 L) → Mem g w1 M → aw P n l.toArray (fun w' => Mem g w' M) l.length (Array.replicate l.length false) N ρ w1) : cw P n (.region id l.toArray true) N B R ρ w :=
  cw_draw _ hm (by simpa using h w.drew (fun _ k => k.drew) hs.drew)
end
section
open Go.RowKit
variable {n : Nat} {ops : Array Oper} {rest : List Oper} {K : Env → World → Prop} {ρ : Env} {g w : World} {L : List HP} {dst : Option Tmp} {ty : TypeId} {pos : String} {aft : Array Edge}
def zCb : List Nat := [104, 105, 106, 107, 111]
abbrev ErrG (ad : Nat → Addr) (g : World) : Prop := Errs zCb ad g.heap.size g
abbrev ErrA (ad : Nat → Addr) (g : World) : Prop := Errs allCodes ad g.heap.size g
theorem Errs.atW {Lc : List Nat} {ad : Nat → Addr} {g w : World} (h : Errs Lc ad g.heap.size g) {L : List HP} (hs : Mem g w L) : Errs Lc ad g.heap.size w := h.below hs.below0
theorem Errs.cellW {Lc : List Nat} {ad : Nat → Addr} {g w : World} (h : Errs Lc ad g.heap.size g) {L : List HP} (hs : Mem g w L) (c : Nat) (hc : c ∈ Lc) {x : Nat} (hx : gidx c = x) : w.cell? ⟨x, 0, none⟩ = some (zAk ad c) := by
  subst hx; exact hs.cellOld (h.cell c hc)
theorem guard_code (ad : Nat → Addr) (op : BinOp) (t : TypeId) (x y : Operand) {w : World} (c : Nat) {d : Nat} (hd : d ≠ 0) : (eqGuard op t x y (zAk ad c) (zAk ad d)).run Tryz.prog w = .ok () w := by
  rw [zEo ad hd]
  by_cases h : c = 0
  · subst h; rw [zB]; cases op <;> rfl
  · rw [zEo ad h]; cases op <;> rfl
theorem eqGuard_err {op : BinOp} {ad : Nat → Addr} {t : TypeId} {x : Operand} {c : Nat} : (eqGuard op t x (.const .nilIface) (zAk ad c) .nilIface).run Tryz.prog w = .ok () w := by
  by_cases h : c = 0
  · subst h; rw [zB]; cases op <;> cases x <;> rfl
  · rw [zEo ad h]; cases op <;> rfl
theorem equal_errn {ad : Nat → Addr} {c : Nat} : (Op.equal 27 (zAk ad c) .nilIface).run Tryz.prog w = .ok (decide (c = 0)) w := by
  show (Op.equalIn 10000 _ _ _).run Tryz.prog w = _
  rw [Op.equalIn]
  by_cases h : c = 0
  · subst h; rw [zB]; simp [run_underlying zCq]
  · rw [zEo ad h]; simp [run_underlying zCq, h]
theorem binOp_errn {ad : Nat → Addr} {c : Nat} : binOp .eql 27 (zAk ad c) .nilIface = (do pure (.bool (← Op.equal 27 (zAk ad c) .nilIface))) := by
  by_cases h : c = 0
  · subst h; rw [zB]; rfl
  · rw [zEo ad h]; rfl
theorem binOp_errne {ad : Nat → Addr} {c : Nat} : binOp .neq 27 (zAk ad c) .nilIface = (do pure (.bool (!(← Op.equal 27 (zAk ad c) .nilIface)))) := by
  by_cases h : c = 0
  · subst h; rw [zB]; rfl
  · rw [zEo ad h]; rfl
theorem zDl {x : Operand} {u : TypeId} {ad : Nat → Addr} {c : Nat} (hx : ev ρ x = zAk ad c) : (execOp (ev ρ) ⟨dst, .binOp .eql 27 x (.const .nilIface) u, ty, pos, aft, none⟩).run Tryz.prog w = .ok (.value (.bool (decide (c = 0)))) w := by
  have hy : ev ρ (.const .nilIface) = .nilIface := rfl; simp only [execOp, hx, hy, Sem.run_bind, eqGuard_err, binOp_errn, equal_errn, Result.andThen_ok, Sem.run_pure]
theorem zAv {x : Operand} {u : TypeId} {ad : Nat → Addr} {c : Nat} (hx : ev ρ x = zAk ad c) : (execOp (ev ρ) ⟨dst, .binOp .neq 27 x (.const .nilIface) u, ty, pos, aft, none⟩).run Tryz.prog w = .ok (.value (.bool (!decide (c = 0)))) w := by
  have hy : ev ρ (.const .nilIface) = .nilIface := rfl; simp only [execOp, hx, hy, Sem.run_bind, eqGuard_err, binOp_errne, equal_errn, Result.andThen_ok, Sem.run_pure]
section
variable {P : Program} {n : Nat} {ops : Array Oper} {rest : List Oper} {K : Env → World → Prop} {ρ : Env} {g w : World} {L : List HP} {dst : Option Tmp} {op : Op} {ty : TypeId} {pos : String} {aft : Array Edge} {S : World → Prop} {fuel : Nat} {listed : Array Bool} {x y : Operand} {t u : TypeId} {k k2 : IntKind} {a b : Int}
theorem Jv {x : Operand} {u : TypeId} {ad : Nat → Addr} {c : Nat} (hx : ev ρ x = zAk ad c) (h : lw Tryz.prog n ops rest K (updo ρ dst ((.bool (!decide (c = 0))))) w) (hd : okd n dst = true := by rfl) : lw Tryz.prog n ops (⟨dst, .binOp .neq 27 x (.const .nilIface) u, ty, pos, aft, none⟩ :: rest) K ρ w := zA hd (zAv hx) h
end
theorem run_eqnn {x : Operand} {u : TypeId} (hx : ev ρ x = .nilIface) : (execOp (ev ρ) ⟨dst, .binOp .eql 27 x (.const .nilIface) u, ty, pos, aft, none⟩).run Tryz.prog w = .ok (.value (.bool true)) w := zDl (ad := fun _ => ⟨0, 0, none⟩) (c := 0) hx
theorem zBu {x : Operand} {u : TypeId} (hx : ev ρ x = .nilIface) : (execOp (ev ρ) ⟨dst, .binOp .neq 27 x (.const .nilIface) u, ty, pos, aft, none⟩).run Tryz.prog w = .ok (.value (.bool false)) w := zAv (ad := fun _ => ⟨0, 0, none⟩) (c := 0) hx
section
variable {P : Program} {n : Nat} {ops : Array Oper} {rest : List Oper} {K : Env → World → Prop} {ρ : Env} {g w : World} {L : List HP} {dst : Option Tmp} {op : Op} {ty : TypeId} {pos : String} {aft : Array Edge} {S : World → Prop} {fuel : Nat} {listed : Array Bool} {x y : Operand} {t u : TypeId} {k k2 : IntKind} {a b : Int}
theorem Jz {x : Operand} {u : TypeId} (hx : ev ρ x = .nilIface) (h : lw Tryz.prog n ops rest K (updo ρ dst ((.bool false))) w) (hd : okd n dst = true := by rfl) : lw Tryz.prog n ops (⟨dst, .binOp .neq 27 x (.const .nilIface) u, ty, pos, aft, none⟩ :: rest) K ρ w := zA hd (zBu hx) h
end
theorem equal_err {Lc : List Nat} {ad : Nat → Addr} {B : Nat} (h : Errs Lc ad B w) {c d : Nat} (hc : c = 0 ∨ c ∈ Lc) (hd : d ∈ Lc) : (Op.equal 27 (zAk ad c) (zAk ad d)).run Tryz.prog w = .ok (decide (c = d)) w := by
  rcases hc with rfl | hc
  · have hd0 := h.pos d hd
    have : ¬ (0 = d) := fun e => hd0 e.symm
    rw [zB, zEo ad hd0]
    show (Op.equalIn 10000 _ _ _).run Tryz.prog w = _
    rw [Op.equalIn]
    simp [run_underlying zCq, this]
  · have hr := run_eql_errs h hc hd
    rw [zEo ad (h.pos c hc), zEo ad (h.pos d hd)]; have e : binOp .eql 27 (.iface 286 (.pointer (some (ad c)))) (.iface 286 (.pointer (some (ad d)))) = (do pure (.bool (← Op.equal 27 (.iface 286 (.pointer (some (ad c)))) (.iface 286 (.pointer (some (ad d))))))) := rfl; rw [e] at hr; simp only [Sem.run_bind] at hr; generalize hq : (Op.equal 27 (.iface 286 (.pointer (some (ad c)))) (.iface 286 (.pointer (some (ad d))))).run Tryz.prog w = r at hr
    cases r with
    | ok b w' =>
      simp only [Result.andThen_ok, Sem.run_pure, Result.ok.injEq, Value.bool.injEq] at hr; obtain ⟨rfl, rfl⟩ := hr
      congr 1
    | halt x w' => cases hr
theorem binOp_err {ad : Nat → Addr} {c d : Nat} : binOp .eql 27 (zAk ad c) (zAk ad d) = (do pure (.bool (← Op.equal 27 (zAk ad c) (zAk ad d)))) := by
  by_cases h : c = 0 <;> by_cases k : d = 0 <;> simp only [zAk, h, k, if_true, if_false] <;> rfl
theorem binOp_errN {ad : Nat → Addr} {c d : Nat} : binOp .neq 27 (zAk ad c) (zAk ad d) = (do pure (.bool (!(← Op.equal 27 (zAk ad c) (zAk ad d))))) := by
  by_cases h : c = 0 <;> by_cases k : d = 0 <;> simp only [zAk, h, k, if_true, if_false] <;> rfl
theorem zEj {x y : Operand} {u : TypeId} {Lc : List Nat} {ad : Nat → Addr} {B : Nat} (h : Errs Lc ad B w) {c d : Nat} (hc : c = 0 ∨ c ∈ Lc) (hd : d ∈ Lc) (hx : ev ρ x = zAk ad c) (hy : ev ρ y = zAk ad d) : (execOp (ev ρ) ⟨dst, .binOp .eql 27 x y u, ty, pos, aft, none⟩).run Tryz.prog w = .ok (.value (.bool (decide (c = d)))) w := by
  have hgd := guard_code ad .eql 27 x y (w := w) c (h.pos d hd); simp only [execOp, hx, hy, Sem.run_bind, hgd, binOp_err, equal_err h hc hd, Result.andThen_ok, Sem.run_pure]
end
section
open Go.RowKit
variable {P : Program} {n : Nat} {ops : Array Oper} {rest : List Oper} {K : Env → World → Prop} {ρ : Env} {g w : World} {L : List HP} {dst : Option Tmp} {ty : TypeId} {pos : String} {aft : Array Edge}
theorem cw_scope {c : Code} {N R : Post} {B : List (Nat × Post)} (h : cw P n c N B R ρ w) : cw P n (.scope c) N B R ρ w := fun a ha =>
  wp_scope_straight (wp_mono (h a ha) fun e a w q => by cases e <;> exact q)
theorem cw_label {l : Nat} {N R : Post} {B : List (Nat × Post)} (h : N ρ w) : cw P n (.label l) N B R ρ w := fun a ha => wp_label ⟨ρ, ha, h⟩
def subA (a : Option Addr) (c lo : Nat) : Option Addr := if c = lo then a else a.map (·.add lo)
def subS (a : Option Addr) (c lo hi : Nat) : Value := .slice (subA a c lo) (hi - lo) (c - lo)
theorem zEi {k : IntKind} {i : Int} {m y : Nat} {code : BoundsCode} (hi : i = m) (h : m ≤ y) : (Instr.sliceBound (.int k i) y code).run P w = .ok m w := by
  subst hi
  simp [Instr.sliceBound, asIntOf, h]
theorem run_slice {x y z : Operand} {t e : TypeId} {a : Option Addr} {len c lo hi : Nat} {k k2 : IntKind} {i j : Int} (ht : P.underlying t = some (.slice e)) (hsz : (P.info? e).map (·.size) = some 1) (hx : ev ρ x = .slice a len c) (hy : ev ρ y = .int k i) (hz : ev ρ z = .int k2 j) (hlo : i = lo) (hj : j = hi) (h1 : lo ≤ hi) (h2 : hi ≤ c) :
    (execOp (ev ρ) ⟨dst, .slice t x (some y) (some z) none, ty, pos, aft, none⟩).run P w = .ok (.value (subS a c lo hi)) w := by
  obtain ⟨inf, hinf, hs⟩ := Option.map_eq_some_iff.1 hsz; simp only [execOp, Option.map_some, Option.map_none, hx, hy, hz, Instr.sliceAt, Sem.run_bind, run_underlying ht, Result.andThen_ok, Instr.slice, Instr.sliceBounds, Option.isSome_none, if_true, Bool.false_eq_true, if_false, zEi hj h2, zEi hlo h1, Sem.run_pure, sizeOf, typeInfo, program, Sem.run, hinf, hs, Nat.mul_one]
  rfl
theorem zD1 {x y : Operand} {t e : TypeId} {a : Option Addr} {len c lo : Nat} {k : IntKind} {i : Int} (ht : P.underlying t = some (.slice e)) (hsz : (P.info? e).map (·.size) = some 1) (hx : ev ρ x = .slice a len c) (hy : ev ρ y = .int k i) (hlo : i = lo) (h1 : lo ≤ len) :
    (execOp (ev ρ) ⟨dst, .slice t x (some y) none none, ty, pos, aft, none⟩).run P w = .ok (.value (subS a c lo len)) w := by
  obtain ⟨inf, hinf, hs⟩ := Option.map_eq_some_iff.1 hsz; simp only [execOp, Option.map_some, Option.map_none, hx, hy, Instr.sliceAt, Sem.run_bind, run_underlying ht, Result.andThen_ok, Instr.slice, Instr.sliceBounds, Option.isSome_none, Bool.false_eq_true, if_false, zEi hlo h1, Sem.run_pure, sizeOf, typeInfo, program, Sem.run, hinf, hs, Nat.mul_one]
  rfl
theorem zFw {x z : Operand} {t e : TypeId} {a : Option Addr} {len c hi : Nat} {k2 : IntKind} {j : Int} (ht : P.underlying t = some (.slice e)) (hsz : (P.info? e).map (·.size) = some 1) (hx : ev ρ x = .slice a len c) (hz : ev ρ z = .int k2 j) (hj : j = hi) (h2 : hi ≤ c) :
    (execOp (ev ρ) ⟨dst, .slice t x none (some z) none, ty, pos, aft, none⟩).run P w = .ok (.value (subS a c 0 hi)) w := by
  obtain ⟨inf, hinf, hs⟩ := Option.map_eq_some_iff.1 hsz; simp only [execOp, Option.map_some, Option.map_none, hx, hz, Instr.sliceAt, Sem.run_bind, run_underlying ht, Result.andThen_ok, Instr.slice, Instr.sliceBounds, Option.isSome_none, if_true, Bool.false_eq_true, if_false, zEi hj h2, Sem.run_pure, sizeOf, typeInfo, program, Sem.run, hinf, hs, Nat.mul_one]
  rfl
theorem run_str2 {x y z : Operand} {t : TypeId} {s : ByteArray} {lo hi : Nat} {k k2 : IntKind} {i j : Int} (ht : P.underlying t = some .string) (hx : ev ρ x = .string s) (hy : ev ρ y = .int k i) (hz : ev ρ z = .int k2 j) (hlo : i = lo) (hj : j = hi) (h1 : lo ≤ hi) (h2 : hi ≤ s.size) :
    (execOp (ev ρ) ⟨dst, .slice t x (some y) (some z) none, ty, pos, aft, none⟩).run P w = .ok (.value (.string (s.extract lo hi))) w := by
  simp only [execOp, Option.map_some, Option.map_none, hx, hy, hz, Instr.sliceAt, Sem.run_bind, run_underlying ht, Result.andThen_ok, Instr.slice, Instr.sliceBounds, Option.isSome_none, Bool.false_eq_true, if_false, zEi hj h2, zEi hlo h1, Sem.run_pure]
theorem blk_sub (a : Option Addr) (m c lo hi : Nat) : blk (subS a c lo hi) = blk (.slice a m c) := by
  cases a with
  | none => simp [subS, subA, blk]
  | some a =>
    by_cases h : c = lo
    · simp [subS, subA, h, blk]
    · have : (a.add lo).block = a.block := by unfold Addr.add; split <;> rfl
      simp [subS, subA, h, blk, this]
theorem sub_reads {w : World} {a : Option Addr} {m c lo hi : Nat} {l : List Value} (h1 : lo ≤ hi) (h2 : hi ≤ m) (hn : m = l.length) (hc : m ≤ c) {b off : Nat} {cs : Array Value} (ha : a = some ⟨b, off, none⟩) (hz : off + c ≤ cs.size) (hcs : ∀ i, i < l.length → cs[off + i]? = l[i]?) :
    (c - lo = 0) ∨ ∃ b' off', subA a c lo = some ⟨b', off', none⟩ ∧ b' = b ∧ off' + (c - lo) ≤ cs.size ∧ ∀ i, i < ((l.take hi).drop lo).length → cs[off' + i]? = ((l.take hi).drop lo)[i]? := by
  subst ha
  by_cases h : c = lo
  · exact .inl (by omega)
  · refine .inr ⟨b, off + lo, by simp [subA, h, Addr.add_lit], rfl, by omega, fun i hi' => ?_⟩
    simp only [List.length_drop, List.length_take] at hi'; rw [List.getElem?_drop, List.getElem?_take_of_lt (by omega), Nat.add_assoc]; exact hcs _ (by omega)
theorem zEs.sub {w : World} {a : Option Addr} {m c lo hi : Nat} {l : List Value} (h : zEs w (.slice a m c) l) (h1 : lo ≤ hi) (h2 : hi ≤ m) : zEs w (subS a c lo hi) ((l.take hi).drop lo) := by
  obtain ⟨hn, hc, ha, h⟩ := h.open; refine ⟨_, _, _, rfl, by simp; omega, by omega, ?_, ?_⟩
  · intro e
    by_cases hl : c = lo
    · omega
    · have : a = none := by simpa [subA, hl] using e
      have := ha this
      omega
  · rcases h with h | ⟨b, off, cs, E, fz, rfl, hb, hz, hcs⟩
    · exact .inl (by omega)
    · rcases sub_reads (w := w) h1 h2 hn hc rfl hz hcs with h | ⟨b', off', e1, rfl, e3, e4⟩
      · exact .inl h
      · exact .inr ⟨_, off', cs, E, fz, e1, hb, e3, e4⟩
theorem ownV.sub {w : World} {a : Option Addr} {m c lo hi : Nat} {l : List Value} (h : ownV w (.slice a m c) l) (h1 : lo ≤ hi) (h2 : hi ≤ m) : ownV w (subS a c lo hi) ((l.take hi).drop lo) := by
  have hs := h.seq.sub h1 h2; obtain ⟨a', n', c', hv, hn, hc, ha, h⟩ := h; simp only [Value.slice.injEq] at hv; obtain ⟨rfl, rfl, rfl⟩ := hv; obtain ⟨a2, n2, c2, hv, k1, k2, k3, _⟩ := hs; simp only [subS, Value.slice.injEq] at hv; obtain ⟨rfl, rfl, rfl⟩ := hv; refine ⟨_, _, _, rfl, k1, k2, ⟨k3, fun b hb => ha.2 b (by rw [← blk_sub a m c lo hi]; exact hb)⟩, ?_⟩
  rcases h with h | ⟨b, off, cs, E, rfl, hb, hz, hcs⟩
  · exact .inl (by omega)
  · rcases sub_reads (w := w) h1 h2 hn hc rfl hz hcs with h | ⟨b', off', e1, rfl, e3, e4⟩
    · exact .inl h
    · exact .inr ⟨_, off', cs, E, e1, hb, e3, e4⟩
theorem Rd.sub {a : Option Addr} {m c lo hi : Nat} {l : List Value} (h : Rd g L (.slice a m c) l) (h1 : lo ≤ hi) (h2 : hi ≤ m) : Rd g L (subS a c lo hi) ((l.take hi).drop lo) := fun w hs => (h w hs).sub h1 h2
theorem Mem.cut (hs : Mem g w L) (i : Nat) {a : Option Addr} {m c lo hi : Nat} {l : List Value} (hi' : L[i]? = some (own (.slice a m c) l)) (h1 : lo ≤ hi) (h2 : hi ≤ m) : Mem g w (L.set i (own (subS a c lo hi) ((l.take hi).drop lo))) := by
  obtain ⟨F, ⟨g1, g2⟩, g3⟩ := hs.turn hi'; exact g3 w _ F ⟨g1.sub h1 h2, fun x => by rw [g2 x, blk_sub a m c lo hi]⟩ (fun _ h => .inl h) (Keeps.refl _ _)
theorem Mem.ownCells (hs : Mem g w L) (i : Nat) {a : Option Addr} {m c : Nat} {l : List Value} (hi : L[i]? = some (own (.slice a m c) l)) (h : 0 < l.length) : ∃ b off, a = some ⟨b, off, none⟩ ∧ ∀ j v, l[j]? = some v → w.cell? ⟨b, off + j, none⟩ = some v := by
  obtain ⟨F, ⟨g1, _⟩⟩ := hs.read hi; have h2 := g1.seq; have hn := h2.len; obtain ⟨b, off, h3, _, h4⟩ := h2.cell (i := 0) (by omega); refine ⟨b, off, h3, fun j v hj => ?_⟩; obtain ⟨hlt, rfl⟩ := List.getElem?_eq_some_iff.1 hj; exact h4 j hlt
theorem Rd.cells' {a : Option Addr} {m c : Nat} {l : List Value} (h : Rd g L (.slice a m c) l) (hs : Mem g w L) (h0 : 0 < l.length) : ∃ b off, a = some ⟨b, off, none⟩ ∧ ∀ j v, l[j]? = some v → w.cell? ⟨b, off + j, none⟩ = some v := by
  have h2 := h.seq hs; have hn := h2.len; obtain ⟨b, off, h3, _, h4⟩ := h2.cell (i := 0) (by omega); refine ⟨b, off, h3, fun j v hj => ?_⟩; obtain ⟨hlt, rfl⟩ := List.getElem?_eq_some_iff.1 hj; exact h4 j hlt
theorem Rd.cellAt {b off m c : Nat} {l : List Value} (h : Rd g L (.slice (some ⟨b, off, none⟩) m c) l) (hs : Mem g w L) {j : Nat} {v : Value} (hj : l[j]? = some v) : w.cell? ⟨b, off + j, none⟩ = some v := by
  obtain ⟨hlt, _⟩ := List.getElem?_eq_some_iff.1 hj; obtain ⟨b', off', e, h2⟩ := h.cells' hs (by omega)
  cases e
  exact h2 j v hj
theorem Mem.ownAt {b off m c : Nat} {l : List Value} (hs : Mem g w L) (i : Nat) (hi : L[i]? = some (own (.slice (some ⟨b, off, none⟩) m c) l)) {j : Nat} {v : Value} (hj : l[j]? = some v) : w.cell? ⟨b, off + j, none⟩ = some v := (Rd.own i hi).cellAt hs hj
def emp : HP where
  ok F _ := ∀ x, ¬ F x
  loc := fun h _ => h
  lt := fun h hb => absurd hb (h _)
def star (A B : HP) : HP where
  ok F w := ∃ F1 F2, A.ok F1 w ∧ B.ok F2 w ∧ (∀ x, F1 x → ¬ F2 x) ∧ ∀ x, F x ↔ F1 x ∨ F2 x
  loc := fun ⟨F1, F2, h1, h2, h3, h4⟩ k => ⟨F1, F2, A.loc h1 fun b hb => k b ((h4 b).2 (.inl hb)), B.loc h2 fun b hb => k b ((h4 b).2 (.inr hb)), h3, h4⟩
  lt := fun ⟨F1, F2, h1, h2, _, h4⟩ hb => ((h4 _).1 hb).elim (A.lt h1) (B.lt h2)
def ex {α : Type} (f : α → HP) : HP where
  ok F w := ∃ a, (f a).ok F w
  loc := fun ⟨a, h⟩ k => ⟨a, (f a).loc h k⟩
  lt := fun ⟨a, h⟩ hb => (f a).lt h hb
def also (A : HP) (p : Prop) : HP where
  ok F w := A.ok F w ∧ p
  loc := fun ⟨h, hp⟩ k => ⟨A.loc h k, hp⟩
  lt := fun ⟨h, _⟩ hb => A.lt h hb
def stars : List HP → HP
  | [] => emp
  | C :: L => star C (stars L)
theorem zDi.star {w : World} {A B : HP} {X : Nat → Prop} : zDi w (star A B :: L) X ↔ zDi w (A :: B :: L) X := by
  constructor
  · rintro ⟨F, ⟨F1, F2, h1, h2, h3, h4⟩, h5, h6⟩
    exact ⟨F1, h1, fun b hb => h5 b ((h4 b).2 (.inl hb)), F2, h2, fun b hb hx => hx.elim (h5 b ((h4 b).2 (.inr hb))) (fun h => h3 b h hb), zDi.less (fun b hb => hb.elim (fun hb => hb.elim .inl fun h => .inr ((h4 b).2 (.inl h))) fun h => .inr ((h4 b).2 (.inr h))) h6⟩
  · rintro ⟨F1, h1, h5, F2, h2, h3, h6⟩
    exact ⟨fun x => F1 x ∨ F2 x, ⟨F1, F2, h1, h2, fun x ha hb => h3 x hb (.inr ha), fun _ => Iff.rfl⟩, fun b hb => hb.elim (h5 b) fun hb hx => h3 b hb (.inl hx), zDi.less (fun b hb => hb.elim (fun h => .inl (.inl h)) fun h => h.elim (fun h => .inl (.inr h)) .inr) h6⟩
theorem zDi.stars {w : World} : ∀ {M L : List HP} {X : Nat → Prop}, zDi w (stars M :: L) X ↔ zDi w (M ++ L) X
  | [], L, X => ⟨fun ⟨F, h1, _, h3⟩ => zDi.less (fun _ h => .inl h) h3, fun h => ⟨fun _ => False, fun _ h => h, fun _ h => h.elim, zDi.less (fun _ h => h.elim id False.elim) h⟩⟩
  | C :: M, L, X => by
    show zDi w (Go.Proofs.YthejaanobeonnaaGreatDoor.star C (Go.Proofs.YthejaanobeonnaaGreatDoor.stars M) :: L) X ↔ zDi w (C :: (M ++ L)) X
    rw [zDi.star]
    constructor
    · rintro ⟨F, h1, h2, h3⟩; exact ⟨F, h1, h2, zDi.stars.1 h3⟩
    · rintro ⟨F, h1, h2, h3⟩; exact ⟨F, h1, h2, zDi.stars.2 h3⟩
theorem Mem.imp {M L : List HP} (hs : Mem g w L) (h : ∀ X, zDi w L X → zDi w M X) : Mem g w M := ⟨hs.os, hs.tape, hs.output, hs.size, hs.old, h _ hs.sat⟩
theorem Mem.unstars {M L : List HP} (hs : Mem g w (stars M :: L)) : Mem g w (M ++ L) := hs.imp fun _ => zDi.stars.1
theorem Mem.stars {M L : List HP} (hs : Mem g w (M ++ L)) : Mem g w (stars M :: L) := hs.imp fun _ => zDi.stars.2
theorem Mem.unex {α : Type} {f : α → HP} (hs : Mem g w (ex f :: L)) : ∃ a, Mem g w (f a :: L) := by
  obtain ⟨h1, h2, h3, h4, h5, F, ⟨a, ha⟩, h6, h7⟩ := hs; exact ⟨a, h1, h2, h3, h4, h5, F, ha, h6, h7⟩
theorem Mem.ex {α : Type} {f : α → HP} (a : α) (hs : Mem g w (f a :: L)) : Mem g w (ex f :: L) := hs.imp fun _ ⟨F, ha, h⟩ => ⟨F, ⟨a, ha⟩, h⟩
theorem Mem.unalso {A : HP} {p : Prop} (hs : Mem g w (also A p :: L)) : p ∧ Mem g w (A :: L) := by
  obtain ⟨h1, h2, h3, h4, h5, F, ⟨ha, hp⟩, h6, h7⟩ := hs; exact ⟨hp, h1, h2, h3, h4, h5, F, ha, h6, h7⟩
theorem Mem.also {A : HP} {p : Prop} (hp : p) (hs : Mem g w (A :: L)) : Mem g w (also A p :: L) := hs.imp fun _ ⟨F, ha, h⟩ => ⟨F, ⟨ha, hp⟩, h⟩
theorem zDi.arr {w : World} {k : Nat} : ∀ (is : List Nat) {L : List HP} {X : Nat → Prop}, is.Nodup → (∀ i ∈ is, i < k) → zDi w L X → zDi w (is.filterMap (fun i => L[i]?) ++ L.drop k) X
  | [], _, _, _, _, h => h.suffix k
  | i :: is, L, X, hn, hk, h => by
    cases hi : L[i]? with
    | none => simp only [List.filterMap_cons, hi]; exact zDi.arr is (List.nodup_cons.1 hn).2 (fun j hj => hk j (.tail _ hj)) h
    | some C =>
      obtain ⟨F, h1, h2, h3⟩ := h.get hi; have hlt : i < L.length := (List.getElem?_eq_some_iff.1 hi).1; have h4 : zDi w (L.set i emp) (fun b => X b ∨ F b) := zDi.put (F := fun _ => False) hlt (fun _ h => h) (fun _ h => h.elim) (zDi.less (fun b hb => hb.elim id False.elim) h3); have h5 := zDi.arr is (List.nodup_cons.1 hn).2 (fun j hj => hk j (.tail _ hj)) h4
      have e1 : is.filterMap (fun j => (L.set i emp)[j]?) = is.filterMap (fun j => L[j]?) := by
        have key : ∀ (l : List Nat), i ∉ l → l.filterMap (fun j => (L.set i emp)[j]?) = l.filterMap (fun j => L[j]?) := by
          intro l
          induction l with
          | nil => intro _; rfl
          | cons j l ih =>
            intro hj; simp only [List.mem_cons, not_or] at hj; simp only [List.filterMap_cons, List.getElem?_set_ne hj.1, ih hj.2]
        exact key is (List.nodup_cons.1 hn).1
      have e2 : (L.set i emp).drop k = L.drop k := by rw [List.drop_set]; simp [hk i (.head _)]
      rw [e1, e2] at h5; simp only [List.filterMap_cons, hi]; exact ⟨F, h1, h2, h5⟩
theorem Mem.arr (hs : Mem g w L) (is : List Nat) (k : Nat) (h : (decide is.Nodup && is.all fun i => decide (i < k)) = true) : Mem g w (is.filterMap (fun i => L[i]?) ++ L.drop k) := by
  simp only [Bool.and_eq_true, decide_eq_true_eq, List.all_eq_true] at h
  exact hs.imp fun _ => zDi.arr is h.1 h.2
theorem Mem.addE {C : HP} (hs : Mem g w L) (hC : C.ok (fun _ => False) w) : Mem g w (C :: L) := hs.imp fun _ h => ⟨_, hC, fun _ h => h.elim, zDi.less (fun _ h => h.elim id False.elim) h⟩
theorem zDn (w : World) : (own (.slice none 0 0) []).ok (fun _ => False) w := ⟨ownV.nil w, fun _ => ⟨fun h => h.elim, fun h => by cases h⟩⟩
section
variable {κ α β : Type} [DecidableEq κ]
def famX (R : α → β → HP) (X : κ → Prop) (l : List (κ × α)) (m : List (κ × β)) : HP where
  ok F w := ∃ G : κ → Nat → Prop, zAm l = zAm m ∧ (∀ k a b, ¬ X k → zAx l k = some a → zAx m k = some b → (R a b).ok (G k) w) ∧ (∀ k k2 x, k ≠ k2 → G k x → ¬ G k2 x) ∧ (∀ k x, G k x → k ∈ zAm m ∧ ¬ X k) ∧ ∀ x, F x ↔ ∃ k, G k x
  loc := fun ⟨G, h1, h2, h3, h4, h5⟩ k => ⟨G, h1, fun i a b hx ha hb => (R a b).loc (h2 i a b hx ha hb) fun x hx => k x ((h5 x).2 ⟨i, hx⟩), h3, h4, h5⟩
  lt := fun ⟨G, h1, h2, h3, h4, h5⟩ hb => by
    obtain ⟨k, hk⟩ := (h5 _).1 hb; obtain ⟨hm, hx⟩ := h4 k _ hk
    cases hb : zAx m k with
    | none => exact absurd hm ((zBe _ k).1 hb)
    | some b =>
      cases ha : zAx l k with
      | none => exact absurd (h1 ▸ hm) ((zBe _ k).1 ha)
      | some a => exact (R a b).lt (h2 k a b hx ha hb) hk
abbrev famC (R : α → β → HP) (l : List (κ × α)) (m : List (κ × β)) : HP := famX R (fun _ => False) l m
variable {R : α → β → HP} {X : κ → Prop} {l : List (κ × α)} {m : List (κ × β)} {k : κ} {a : α} {b : β}
theorem famC_nil (w : World) : (famC R ([] : List (κ × α)) ([] : List (κ × β))).ok (fun _ => False) w :=
  ⟨fun _ _ => False, rfl, fun _ _ _ _ h => by simp [zAx] at h, fun _ _ _ _ h => h.elim, fun _ _ h => h.elim, fun _ => ⟨fun h => h.elim, fun ⟨_, h⟩ => h⟩⟩
theorem Mem.famKeys (hs : Mem g w L) (i : Nat) (hi : L[i]? = some (famX R X l m)) : zAm l = zAm m := by
  obtain ⟨F, G, h1, _⟩ := hs.read hi; exact h1
theorem fam_some (hk : zAm l = zAm m) (hb : zAx m k = some b) : ∃ a, zAx l k = some a := by
  cases ha : zAx l k with
  | some a => exact ⟨a, rfl⟩
  | none =>
    have := (zBe m k).2 (hk ▸ (zBe l k).1 ha)
    rw [this] at hb; cases hb
theorem fam_none (hk : zAm l = zAm m) (hb : zAx m k = none) : zAx l k = none := (zBe l k).2 (hk ▸ (zBe m k).1 hb)
theorem Ens.fam {p : World → Prop} (i : Nat) (hi : L[i]? = some (famC R l m)) (ha : zAx l k = some a) (hb : zAx m k = some b) (hp : ∀ F w, (R a b).ok F w → p w) : Ens g L p :=
  Ens.of i hi fun _ w ⟨G, _, h2, _⟩ => hp (G k) w (h2 k a b id ha hb)
theorem Mem.famTake (hs : Mem g w L) (i : Nat) (hi : L[i]? = some (famC R l m)) (ha : zAx l k = some a) (hb : zAx m k = some b) : Mem g w (R a b :: L.set i (famX R (· = k) l m)) := by
  refine hs.imp fun Y hY => ?_
  obtain ⟨F, ⟨G, h1, h2, h3, h4, h5⟩, h6, h7⟩ := hY.get hi; have hlt : i < L.length := (List.getElem?_eq_some_iff.1 hi).1; refine ⟨G k, h2 k a b id ha hb, fun x hx => h6 x ((h5 x).2 ⟨k, hx⟩), ?_⟩; refine zDi.put (F := fun x => ∃ j, j ≠ k ∧ G j x) hlt ⟨fun j x => j ≠ k ∧ G j x, h1, fun j a b hj ha hb => ?_, fun j j2 x hne ⟨_, p⟩ ⟨_, q⟩ => h3 j j2 x hne p q, fun j x ⟨p, q⟩ => ⟨(h4 j x q).1, p⟩, fun _ => Iff.rfl⟩ ?_ ?_
  · have := h2 j a b id ha hb
    have e : (fun x => j ≠ k ∧ G j x) = G j := funext fun x => propext ⟨fun h => h.2, fun h => ⟨hj, h⟩⟩
    show (R a b).ok (fun x => j ≠ k ∧ G j x) w
    rw [e]; exact this
  · rintro x ⟨j, hj, hx⟩ hy
    exact hy.elim (h6 x ((h5 x).2 ⟨j, hx⟩)) (h3 j k x hj hx)
  · refine zDi.less ?_ h7
    rintro x ((hx | hx) | ⟨j, _, hx⟩)
    · exact .inl hx
    · exact .inr ((h5 x).2 ⟨k, hx⟩)
    · exact .inr ((h5 x).2 ⟨j, hx⟩)
theorem Mem.famPut (hs : Mem g w (R a b :: L)) (i : Nat) (hi : L[i]? = some (famX R X l m)) (hX : ∀ j, X j → j = k) : Mem g w (L.set i (famC R (zC1 l k a) (zC1 m k b))) := by
  refine hs.imp fun Y hY => ?_
  obtain ⟨F1, e1, e2, e3⟩ := hY; obtain ⟨F, ⟨G, h1, h2, h3, h4, h5⟩, h6, h7⟩ := e3.get hi; have hlt : i < L.length := (List.getElem?_eq_some_iff.1 hi).1
  have hdis : ∀ x, F1 x → ¬ F x := fun x h1 h2 => h6 x h2 (.inr h1)
  have hkeys : zAm (zC1 l k a) = zAm (zC1 m k b) := by rw [zF4, zF4, h1]
  refine zDi.put (F := fun x => ∃ j, (if j = k then F1 x else G j x)) hlt ⟨fun j x => if j = k then F1 x else G j x, hkeys, fun j a' b' _ ha hb => ?_, fun j j2 x hne p q => ?_, fun j x p => ?_, fun _ => Iff.rfl⟩ ?_ ?_
  · by_cases e : j = k
    · subst e
      rw [zB7] at ha hb
      cases ha; cases hb
      simpa using e1
    · rw [zB1 _ _ e] at ha hb
      have := h2 j a' b' (fun h => e (hX j h)) ha hb
      simpa [e] using this
  · simp only at p q
    by_cases e : j = k
    · by_cases e' : j2 = k
      · exact hne (e.trans e'.symm)
      · rw [if_pos e] at p
        rw [if_neg e'] at q; exact hdis x p ((h5 x).2 ⟨j2, q⟩)
    · rw [if_neg e] at p
      by_cases e' : j2 = k
      · rw [if_pos e'] at q
        exact hdis x q ((h5 x).2 ⟨j, p⟩)
      · rw [if_neg e'] at q
        exact h3 j j2 x hne p q
  · refine ⟨?_, id⟩
    rw [zF4]
    by_cases e : j = k
    · subst e; split <;> simp_all
    · simp only [e, if_false] at p
      have := (h4 j x p).1
      split
      · exact this
      · exact List.mem_append.2 (.inl this)
  · rintro x ⟨j, hx⟩ hy
    by_cases e : j = k
    · rw [if_pos e] at hx; exact e2 x hx hy
    · rw [if_neg e] at hx; exact h6 x ((h5 x).2 ⟨j, hx⟩) (.inl hy)
  · refine zDi.less ?_ h7
    rintro x (hx | ⟨j, hx⟩)
    · exact .inl (.inl hx)
    · by_cases e : j = k
      · rw [if_pos e] at hx; exact .inl (.inr hx)
      · rw [if_neg e] at hx; exact .inr ((h5 x).2 ⟨j, hx⟩)
theorem Mem.famDel (hs : Mem g w L) (i : Nat) (hi : L[i]? = some (famX R X l m)) (hn : (zAm l).Nodup) (hX : ∀ j, X j → j = k) : Mem g w (L.set i (famC R (zDe l k) (zDe m k))) := by
  refine hs.imp fun Y hY => ?_
  obtain ⟨F, ⟨G, h1, h2, h3, h4, h5⟩, h6, h7⟩ := hY.get hi; have hlt : i < L.length := (List.getElem?_eq_some_iff.1 hi).1; have hn' : (zAm m).Nodup := h1 ▸ hn; refine zDi.put (F := fun x => ∃ j, j ≠ k ∧ G j x) hlt ⟨fun j x => j ≠ k ∧ G j x, by rw [zF3 hn, zF3 hn', h1], fun j a b _ ha hb => ?_, fun j j2 x hne ⟨_, p⟩ ⟨_, q⟩ => h3 j j2 x hne p q, fun j x ⟨p, q⟩ => ⟨?_, id⟩, fun _ => Iff.rfl⟩ ?_ ?_
  · have hj : j ≠ k := fun e => by subst e; rw [zCw hn] at ha; cases ha
    rw [zCu _ hj] at ha hb; have := h2 j a b (fun h => hj (hX j h)) ha hb
    have e : (fun x => j ≠ k ∧ G j x) = G j := funext fun x => propext ⟨fun h => h.2, fun h => ⟨hj, h⟩⟩
    show (R a b).ok (fun x => j ≠ k ∧ G j x) w
    rw [e]; exact this
  · rw [zF3 hn']
    exact List.mem_filter.2 ⟨(h4 j x q).1, by simpa using p⟩
  · rintro x ⟨j, hj, hx⟩ hy
    exact h6 x ((h5 x).2 ⟨j, hx⟩) hy
  · refine zDi.less ?_ h7
    rintro x (hx | ⟨j, _, hx⟩)
    · exact .inl hx
    · exact .inr ((h5 x).2 ⟨j, hx⟩)
end
end
section
open Go.RowKit
variable {P : Program} {n : Nat} {ops : Array Oper} {rest : List Oper} {K : Env → World → Prop} {ρ : Env} {g w : World} {L : List HP} {dst : Option Tmp} {ty : TypeId} {pos : String} {aft : Array Edge}
theorem memN_sub {W W' : List Nat} (h : (W'.all fun t => memN t W) = true) {t : Nat} (ht : memN t W' = true) : memN t W = true := by
  induction W' with
  | nil => cases ht
  | cons d l ih =>
    simp only [List.all_cons, Bool.and_eq_true] at h; simp only [memN, Bool.or_eq_true] at ht
    rcases ht with ht | ht
    · rw [Nat.eq_of_beq_eq_true ht]; exact h.1
    · exact ih h.2 ht
theorem Out.mixIn {W W' : List Nat} {ξ ρ' ρ : Env} (hsub : (W'.all fun t => memN t W) = true) (h : Out W ρ' ρ) : Out W (Go.Proofs.YthejaanobeonnaaGreatDoor.mix W' ξ ρ') ρ := fun t ht => by
  have : memN t W' = false := by cases hb : memN t W' with
    | false => rfl
    | true => rw [memN_sub hsub hb] at ht; cases ht
  simp only [Go.Proofs.YthejaanobeonnaaGreatDoor.mix, this, cond_false]; exact h t ht
def rangeC {κ : Type} (enc : κ → Value) (r m : Nat) (es left : List (κ × Value)) : HP where
  ok F w := (∃ arr clock since seen c0, w.heap[m]? = some (.map arr clock) ∧ arr.toList.map kv = es.map (ekv enc) ∧ MapKept.Stamped arr clock ∧ w.heap[r]? = some (.mapIter (some m) since seen c0) ∧ (since ≤ c0 ∧ since ≤ clock) ∧ (∀ x ∈ arr.toList, x.born < since) ∧ (leftOf arr seen).toList.map kv = left.map (ekv enc)) ∧ ∀ x, F x ↔ x = m ∨ x = r
  loc := fun {F w w'} ⟨⟨arr, clock, since, seen, c0, h1, h2, h3, h4, h5⟩, hF⟩ k => ⟨⟨arr, clock, since, seen, c0, (k m ((hF m).2 (.inl rfl))).trans h1, h2, h3, (k r ((hF r).2 (.inr rfl))).trans h4, h5⟩, hF⟩
  lt := fun ⟨⟨arr, clock, since, seen, c0, h1, h2, h3, h4, h5⟩, hF⟩ hb => ((hF _).1 hb).elim (fun e => by rw [e]; exact lt_of_block h1) fun e => by rw [e]; exact lt_of_block h4
section
variable {κ : Type} [DecidableEq κ] {enc : κ → Value} {r m : Nat} {es left : List (κ × Value)}
theorem leftOf_none (arr : Array MapEntry) : leftOf arr #[] = arr := by simp [leftOf]
theorem map_left {arr : Array MapEntry} {clock : Nat} {seen : Array Nat} (hst : MapKept.Stamped arr clock) {e : MapEntry} (he : e ∈ (leftOf arr seen).toList) (hl : (leftOf arr seen).toList.map kv = left.map (ekv enc)) (hes : arr.toList.map kv = es.map (ekv enc)) (inj : ∀ a b, enc a = enc b → a = b) :
    ∃ k v, e.key = enc k ∧ e.val = v ∧ zAx left k = some v ∧ (leftOf arr (seen.push e.born)).toList.map kv = (zDe left k).map (ekv enc) := by
  have hsub : ∀ x ∈ (leftOf arr seen).toList, x ∈ arr.toList := fun x hx => by simp [leftOf] at hx ⊢; exact hx.1
  have hpush : (leftOf arr (seen.push e.born)).toList = (leftOf arr seen).toList.filter fun x => decide (x.born ≠ e.born) := by
    simp only [leftOf, Array.toList_filter, List.filter_filter]
    congr 1
    funext x
    simp only [Array.contains_push, Bool.not_or]
    by_cases h : x.born = e.born <;> simp [h, Bool.and_comm]
  have hnk : ((leftOf arr seen).toList.map (·.key)).Nodup := by
    have : ((leftOf arr seen).toList).Sublist arr.toList := by simp only [leftOf, Array.toList_filter]; exact List.filter_sublist
    exact (this.map _).nodup hst.2.2
  have hnb : ((leftOf arr seen).toList.map (·.born)).Nodup := by
    have : ((leftOf arr seen).toList).Sublist arr.toList := by simp only [leftOf, Array.toList_filter]; exact List.filter_sublist
    exact (this.map _).nodup hst.2.1
  rw [hpush]; clear hpush hsub hst hes; generalize (leftOf arr seen).toList = ll at *
  induction ll generalizing left with
  | nil => cases he
  | cons a ll ih =>
    cases left with
    | nil => simp at hl
    | cons q left =>
      obtain ⟨k, v⟩ := q; simp only [List.map_cons, List.cons.injEq] at hl hnk hnb; obtain ⟨hl1, hl2⟩ := hl; simp only [kv, ekv, Prod.mk.injEq] at hl1
      rcases List.mem_cons.1 he with rfl | he
      · refine ⟨k, v, hl1.1, hl1.2, by simp [zAx], ?_⟩
        simp only [zDe, if_true, List.filter_cons]; simp only [ne_eq, not_true_eq_false, decide_false, Bool.false_eq_true, if_false]
        have : ll.filter (fun x => decide (¬ x.born = e.born)) = ll := List.filter_eq_self.2 fun x hx => by
          have := (List.nodup_cons.1 hnb).1; simp only [decide_eq_true_eq]
          exact fun h => this (by rw [← h]; exact List.mem_map_of_mem hx)
        rw [this]; exact hl2
      · obtain ⟨k2, v2, h1, h2, h3, h4⟩ := ih (left := left) he hl2 (List.nodup_cons.1 hnk).2 (List.nodup_cons.1 hnb).2
        have hne : ¬ k = k2 := fun h => by
          have := (List.nodup_cons.1 hnk).1; refine this ?_; rw [hl1.1, h, ← h1]; exact List.mem_map_of_mem he
        have hnb2 : ¬ a.born = e.born := fun h => by
          have := (List.nodup_cons.1 hnb).1; exact this (by rw [h]; exact List.mem_map_of_mem he)
        refine ⟨k2, v2, h1, h2, by simp [zAx, hne, h3], ?_⟩; simp only [zDe, hne, if_false, List.filter_cons, ne_eq, hnb2, not_false_eq_true, decide_true, if_true, List.map_cons]; simp only [ne_eq] at h4; rw [h4]; simp only [kv, ekv, hl1.1, hl1.2]
end
end
section
open Go.RowKit
variable {P : Program} {n : Nat} {ops : Array Oper} {rest : List Oper} {K : Env → World → Prop} {ρ : Env} {g w : World} {L : List HP} {dst : Option Tmp} {ty : TypeId} {pos : String} {aft : Array Edge}
def curOk {κ : Type} (enc : κ → Value) (arr : Array MapEntry) (clock : Nat) (seen : Array Nat) (c0 : Nat) : Option (κ × Value) → Prop
  | none => True
  | some p => ∃ e ∈ arr.toList, e.key = enc p.1 ∧ e.val = p.2 ∧ c0 = clock ∧ ∃ s : Array Nat, seen = s.push e.born
def rngC {κ : Type} (enc : κ → Value) (r m : Nat) (es left : List (κ × Value)) (cur : Option (κ × Value)) : HP where
  ok F w := (∃ arr clock since seen c0, w.heap[m]? = some (.map arr clock) ∧ arr.toList.map kv = es.map (ekv enc) ∧ MapKept.Stamped arr clock ∧ w.heap[r]? = some (.mapIter (some m) since seen c0) ∧ (since ≤ c0 ∧ since ≤ clock) ∧ (∀ x ∈ arr.toList, x.born < since) ∧ (leftOf arr seen).toList.map kv = left.map (ekv enc) ∧ curOk enc arr clock seen c0 cur) ∧ ∀ x, F x ↔ x = m ∨ x = r
  loc := fun {F w w'} ⟨⟨arr, clock, since, seen, c0, h1, h2, h3, h4, h5⟩, hF⟩ k => ⟨⟨arr, clock, since, seen, c0, (k m ((hF m).2 (.inl rfl))).trans h1, h2, h3, (k r ((hF r).2 (.inr rfl))).trans h4, h5⟩, hF⟩
  lt := fun ⟨⟨arr, clock, since, seen, c0, h1, h2, h3, h4, h5⟩, hF⟩ hb => ((hF _).1 hb).elim (fun e => by rw [e]; exact lt_of_block h1) fun e => by rw [e]; exact lt_of_block h4
section
variable {κ : Type} [DecidableEq κ] {enc : κ → Value} {r m : Nat} {es left : List (κ × Value)} {cur : Option (κ × Value)}
theorem lw_rangeM (hs : Mem g w L) (hd : okd n dst = true) (i : Nat) (hi : L[i]? = some (mapC enc m es)) {x : Operand} {t k e : TypeId} (ht : P.underlying t = some (.map k e)) (hx : ev ρ x = .map (some m))
    (h : ∀ r w', Mem g w' (L.set i (rngC enc r m es es none)) → lw P n ops rest K (updo ρ dst (.pointer (some ⟨r, 0, none⟩))) w') :
    lw P n ops (⟨dst, .range t x, ty, pos, aft, none⟩ :: rest) K ρ w := by
  obtain ⟨F, ⟨⟨arr, clock, hb, he, hst⟩, g2⟩, g3⟩ := hs.turn hi; have hlt := lt_of_block hb; refine zA hd (v := .pointer (some ⟨w.heap.size, 0, none⟩)) (w' := w.alloc (.mapIter (some m) clock #[] clock)) ?_ (h _ _ (g3 _ _ (fun x => x = m ∨ x = w.heap.size) ⟨⟨arr, clock, clock, #[], clock, ?_, he, hst, World.alloc_heap_new w _, ⟨Nat.le_refl _, Nat.le_refl _⟩, hst.1, by rw [leftOf_none]; exact he, trivial⟩, fun _ => Iff.rfl⟩ (fun b hb => hb.elim (fun e => .inl ((g2 b).2 e)) fun e => .inr (Nat.le_of_eq e.symm)) ((Keeps.refl _ _).alloc _)))
  · simp only [execOp, hx, Sem.run_bind, run_range_map w t k e m arr clock ht hb, Result.andThen_ok, Sem.run_pure]
  · rw [Go.heap_alloc_old w _ hlt]; exact hb
theorem lw_nextM (hs : Mem g w L) (hd : okd n dst = true) (i : Nat) (hi : L[i]? = some (rngC enc r m es left cur)) (inj : ∀ a b, enc a = enc b → a = b) {x : Operand} (hx : ev ρ x = .pointer (some ⟨r, 0, none⟩))
    (h0 : left = [] → lw P n ops rest K (updo ρ dst (.tuple #[.bool false])) w)
    (h1 : ∀ k v w', zAx left k = some v → Mem g w' (L.set i (rngC enc r m es (zDe left k) (some (k, v)))) → lw P n ops rest K (updo ρ dst (.tuple #[.bool true, enc k, v])) w') :
    lw P n ops (⟨dst, .next x false, ty, pos, aft, none⟩ :: rest) K ρ w := by
  obtain ⟨F, ⟨⟨arr, clock, since, seen, c0, e1, e2, e3, e4, e5, e6, e7, e8⟩, g2⟩, g3⟩ := hs.turn hi
  rcases run_next_at (P := P) w ty r m since c0 seen arr clock e4 e1 e6 e5.1 with ⟨hz, hr⟩ | ⟨e, he, w1, hw1, hr⟩
  · have : left = [] := by
      have := congrArg List.length e7; simp only [List.length_map, Array.length_toList] at this; exact List.eq_nil_of_length_eq_zero (by omega)
    refine zA hd (v := .tuple #[.bool false]) (w' := w) ?_ (h0 this); simp only [execOp, hx, Sem.run_bind, hr, Result.andThen_ok, Sem.run_pure]
  · obtain ⟨k, v, k1, k2, k3, k4⟩ := map_left (es := es) e3 he e7 e2 inj
    have hne : r ≠ m := fun h => by rw [h] at e4; rw [e4] at e1; cases e1
    have hheap : w1.heap = w.heap := by rcases hw1 with rfl | rfl <;> rfl
    have hlt := lt_of_block e4
    have hset : (ChangeMaps.setBlock w1 r (.mapIter (some m) since (seen.push e.born) clock)).heap = w.heap.setIfInBounds r (.mapIter (some m) since (seen.push e.born) clock) := by simp [ChangeMaps.setBlock, hheap]
    have hk : Keeps F w (ChangeMaps.setBlock w1 r (.mapIter (some m) since (seen.push e.born) clock)) := by
      have hos : ∀ w1, (w1 = w ∨ w1 = w.drew) → w1.os = w.os ∧ w1.tape = w.tape ∧ w1.output = w.output := fun w1 h => by rcases h with rfl | rfl <;> exact ⟨rfl, rfl, rfl⟩
      obtain ⟨a1, a2, a3⟩ := hos w1 hw1; refine ⟨a1, a2, a3, by rw [hset]; simp, fun b hb hnb => ?_⟩; rw [hset, Array.getElem?_setIfInBounds_ne (fun h => hnb ((g2 b).2 (.inr h.symm)))]
    refine zA hd (v := .tuple #[.bool true, e.key, e.val]) (w' := ChangeMaps.setBlock w1 r (.mapIter (some m) since (seen.push e.born) clock)) ?_ ?_
    · simp only [execOp, hx, Sem.run_bind, hr, Result.andThen_ok, Sem.run_pure]
    · rw [k1, k2]
      refine h1 k v _ k3 (g3 _ _ F ⟨⟨arr, clock, since, seen.push e.born, clock, ?_, e2, e3, ?_, ⟨e5.2, e5.2⟩, e6, k4, ⟨e, by simp [leftOf] at he; simpa using he.1, k1, k2, rfl, _, rfl⟩⟩, g2⟩ (fun b hb => .inl hb) hk)
      · rw [hset, Array.getElem?_setIfInBounds_ne hne]; exact e1
      · rw [hset]; exact Array.getElem?_setIfInBounds_self_of_lt hlt
theorem run_entryM (hs : Mem g w L) (i : Nat) {k : κ} {v : Value} (hi : L[i]? = some (rngC enc r m es left (some (k, v)))) {x : Operand} (hx : ev ρ x = .pointer (some ⟨r, 0, none⟩)) :
    (execOp (ev ρ) ⟨dst, .entry x, ty, pos, aft, none⟩).run P w = .ok (.value (.tuple #[enc k, v])) w := by
  obtain ⟨F, ⟨⟨arr, clock, since, seen, c0, e1, e2, e3, e4, e5, e6, e7, e, he, k1, k2, rfl, s, rfl⟩, g2⟩, g3⟩ := hs.turn hi; have hr := run_entry_at (P := P) w r m since s arr c0 e e4 e1 he e3.2.1; rw [k1, k2] at hr; simp only [execOp, hx, Sem.run_bind, hr, Result.andThen_ok, Sem.run_pure]
theorem Mem.rngd (hs : Mem g w L) (i : Nat) (hi : L[i]? = some (rngC enc r m es left cur)) : Mem g w (L.set i (mapC enc m es)) := by
  obtain ⟨F, ⟨⟨arr, clock, since, seen, c0, e1, e2, e3, e4, e5, e6, e7, e8⟩, g2⟩, g3⟩ := hs.turn hi; exact g3 w _ (fun x => x = m) ⟨⟨arr, clock, e1, e2, e3⟩, fun _ => Iff.rfl⟩ (fun b hb => .inl ((g2 b).2 (.inl hb))) (Keeps.refl _ _)
end
end
section
open Go.RowKit
variable {P : Program} {n : Nat} {ops : Array Oper} {rest : List Oper} {K : Env → World → Prop} {ρ : Env} {g w : World} {L : List HP} {dst : Option Tmp} {ty : TypeId} {pos : String} {aft : Array Edge}
def rowsV (w : World) (k : Nat) (v : Value) (rows : List (List Value)) : Prop :=
  ∃ a n c, v = .slice a n c ∧ n = rows.length ∧ n ≤ c ∧ ((a = none → c = 0) ∧ ∀ b, blk v = some b → b < w.heap.size) ∧ (∀ r ∈ rows, r.length = k ∧ ∀ u ∈ r, u.oneCell' = true) ∧
    (c = 0 ∨ ∃ b off cs E, a = some ⟨b, off, none⟩ ∧ w.heap[b]? = some (.cells cs E (0, 0)) ∧ off + c * k ≤ cs.size ∧ ∀ i, i < n * k → cs[off + i]? = rows.flatten[i]?)
def zE0 (k : Nat) (v : Value) (rows : List (List Value)) : HP where
  ok F w := rowsV w k v rows ∧ ∀ x, F x ↔ blk v = some x
  loc := fun {F w w'} ⟨⟨a, n, c, hv, hn, hc, ha, hr, h⟩, hF⟩ kk => by
    subst hv
    have hk : ∀ b, blk (.slice a n c) = some b → w'.heap[b]? = w.heap[b]? := fun b hb => kk b ((hF b).2 hb)
    refine ⟨⟨a, n, c, rfl, hn, hc, ⟨ha.1, fun b hb => lt_keep (ha.2 b hb) (hk b hb)⟩, hr, ?_⟩, hF⟩
    rcases h with h | ⟨b, off, cs, E, rfl, hb, r⟩
    · exact .inl h
    · exact .inr ⟨b, off, cs, E, rfl, (hk b rfl).trans hb, r⟩
  lt := fun ⟨⟨a, n, c, hv, hn, hc, ha, hr, h⟩, hF⟩ hb => ha.2 _ ((hF _).1 hb)
theorem rowK_nil (k : Nat) (w : World) : (zE0 k (.slice none 0 0) []).ok (fun _ => False) w := ⟨⟨none, 0, 0, rfl, rfl, Nat.le_refl _, ⟨fun _ => rfl, fun _ h => by cases h⟩, fun _ h => by simp at h, .inl rfl⟩, fun _ => ⟨fun h => h.elim, fun h => by cases h⟩⟩
theorem flat_len {k : Nat} : ∀ {rows : List (List Value)}, (∀ r ∈ rows, r.length = k ∧ ∀ u ∈ r, u.oneCell' = true) → rows.flatten.length = rows.length * k
  | [], _ => by simp
  | r :: rows, h => by
    have ih := flat_len (rows := rows) fun x hx => h x (List.mem_cons_of_mem _ hx)
    simp only [List.flatten_cons, List.length_append, List.length_cons, ih, (h r (List.mem_cons_self ..)).1, Nat.succ_mul]
    omega
theorem flat_at {k : Nat} : ∀ {rows : List (List Value)} {q : Nat} {row : List Value}, (∀ r ∈ rows, r.length = k) → rows[q]? = some row → ∀ {j : Nat} {v : Value}, row[j]? = some v → rows.flatten[q * k + j]? = some v
  | [], _, _, _, h, _, _, _ => by simp at h
  | r :: rows, q, row, hr, hq, j, v, hj => by
    have hr0 := hr r (List.mem_cons_self ..); obtain ⟨hjlt, _⟩ := List.getElem?_eq_some_iff.1 hj; rw [List.flatten_cons]
    cases q with
    | zero =>
      simp only [List.getElem?_cons_zero, Option.some.injEq] at hq; subst hq; rw [Nat.zero_mul, Nat.zero_add, List.getElem?_append_left hjlt]; exact hj
    | succ q =>
      have h1 : (q + 1) * k = q * k + k := Nat.succ_mul _ _; rw [List.getElem?_append_right (by omega), hr0, show (q + 1) * k + j - k = q * k + j by omega]; exact flat_at (fun x hx => hr x (List.mem_cons_of_mem _ hx)) (by simpa using hq) hj
theorem run_append_row {w : World} {t tx ty e : TypeId} {i : TypeInfo} {z : Value} {k : Nat} (ht : P.underlying t = some (.slice e)) (hi : P.info? e = some i) (hz : i.zero = some z) (hk : i.size = k) (hzc : z.cells.size = k)
    {v x : Value} {rows : List (List Value)} {row : List Value} (hown : rowsV w k v rows) (hl : row.length = k) (h1 : ∀ u ∈ row, u.oneCell' = true) (hsrc : Src P k tx x 1 row w) (hb : (rows.length + 1) * i.bytes ≤ 140737488355328) (hlen : rows.length + 1 ≤ 9223372036854775807) :
    ∃ a c w', (Builtin.append_ #[t, tx] ty #[v, x]).run P w = .ok (.slice a (rows.length + 1) c) w' ∧ rowsV w' k (.slice a (rows.length + 1) c) (rows ++ [row]) ∧ Keeps (fun k => blk v = some k) w w' ∧ (blk (.slice a (rows.length + 1) c) = blk v ∨ blk (.slice a (rows.length + 1) c) = some w.heap.size) := by
  obtain ⟨a, n, c, rfl, hn, hc, ha, hr, h⟩ := hown; subst hn hk; have hfl := flat_len hr
  have hr2 : ∀ r ∈ rows ++ [row], r.length = i.size ∧ ∀ u ∈ r, u.oneCell' = true := fun r hm => by
    rcases List.mem_append.1 hm with hm | hm
    · exact hr r hm
    · simp only [List.mem_cons, List.not_mem_nil, or_false] at hm; subst hm; exact ⟨hl, h1⟩
  have hmul : (rows.length + 1) * i.size = rows.length * i.size + i.size := Nat.succ_mul _ _
  by_cases hroom : rows.length + 1 ≤ c
  · rcases h with h | ⟨b, off, cs, E, rfl, hb', hcap, hcs⟩
    · omega
    · have hcm : (rows.length + 1) * i.size ≤ c * i.size := Nat.mul_le_mul_right _ hroom
      obtain ⟨cs', h2, hsz, hlo, hmid, _, hk, hz2⟩ := zFm row (off + rows.length * i.size) w cs hb' (by omega)
      have hr' := run_append_room_src (P := P) w t tx ty e i ht hi b off rows.length c x 1 row hsrc hroom
        (fun j hj => by rw [zCc hb' (Array.getElem?_eq_getElem (by omega))]; rfl) (fun j _ => free_at hb')
      refine ⟨_, _, _, hr', ⟨_, _, _, rfl, by simp, hroom, ⟨(fun h => by cases h), fun b' hb' => by rw [hz2]; exact ha.2 b' hb'⟩, hr2, .inr ⟨b, off, cs', E, rfl, h2, by omega, fun j hj => ?_⟩⟩, hk.mono (fun k _ hk => by simp [blk, hk]), .inl rfl⟩; rw [List.flatten_append, List.flatten_cons, List.flatten_nil, List.append_nil]
      by_cases hj' : j < rows.length * i.size
      · rw [hlo (off + j) (by omega), hcs j hj', List.getElem?_append_left (by omega)]
      · have := hmid (j - rows.length * i.size) (by omega)
        rw [show off + rows.length * i.size + (j - rows.length * i.size) = off + j by omega] at this; rw [this, List.getElem?_append_right (by omega), hfl]
  · have hold : (Builtin.firstCells i.size rows.length (.slice a rows.length c)).run P w.drew = .ok rows.flatten.toArray w.drew := by
      cases a with
      | none =>
        have hc0 := ha.1 rfl; have : rows = [] := List.eq_nil_of_length_eq_zero (by omega); subst this; exact run_firstCells_none w.drew i.size 0 0 c
      | some a =>
        refine run_firstCells_some w.drew i.size rows.length a rows.length c rows.flatten (by rw [hfl]) (fun j u hj => ?_); have hjl := (List.getElem?_eq_some_iff.1 hj).1
        rcases h with h | ⟨b, off, cs, E, ha', hb, _, hcs⟩
        · have : rows.length = 0 := by omega
          rw [hfl, this] at hjl
          omega
        · obtain rfl := Option.some.inj ha'
          rw [Addr.add_lit]; exact zCc hb (by rw [hcs j (by omega), hj])
    have hr' := run_append_grow_src (P := P) w t tx ty e i z ht hi hz a rows.length c rows.flatten hold x 1 row hsrc (by omega) (by omega) (growslice_fits (by omega) hb); have hge := grownCap_ge w (rows.length + 1) c e; refine ⟨_, _, _, hr', ⟨_, _, _, rfl, by simp, hge, ⟨(fun h => by cases h), fun b' hb' => by cases hb'; simp⟩, hr2, .inr ⟨_, 0, _, e, rfl, heap_alloc_new _ _, ?_, fun j hj => ?_⟩⟩, ((Keeps.refl _ w).drew).alloc _, .inr rfl⟩
    · simp only [Array.size_append, List.size_toArray, List.length_append, size_zeroCells, hzc, hfl, hl, Nat.zero_add]
      have e1 : (grownCap w (rows.length + 1) c e) * i.size = (rows.length + 1) * i.size + (grownCap w (rows.length + 1) c e - (rows.length + 1)) * i.size := by rw [← Nat.add_mul]; congr 1; omega
      omega
    · rw [Nat.zero_add, Array.getElem?_append_left (by simp only [List.size_toArray, List.length_append, hfl, hl]; omega), List.getElem?_toArray]
      simp
theorem zCn (hs : Mem g w L) (hd : okd n dst = true) (i j : Nat) {x y : Operand} {t tx e : TypeId} {v : Value} {rows : List (List Value)} {row : List Value} {k b : Nat} {T : TypeId} (hi : L[i]? = some (zE0 k v rows)) (hj : L[j]? = some (cells b row T)) {z : Value} {by_ : Nat}
    (ht : P.underlying t = some (.slice e)) (htx : P.underlying tx = some (.slice e)) (hsz : (P.info? e).map (fun i => (i.zero, i.size, i.bytes)) = some (some z, k, by_)) (hzc : z.cells.size = k) (hl : row.length = k) (h1 : row.all (·.oneCell') = true)
    (hx : ev ρ x = v) (hy : ev ρ y = .slice (some ⟨b, 0, none⟩) 1 1) (hb : (rows.length + 1) * by_ ≤ 140737488355328) (hlen : rows.length + 1 ≤ 9223372036854775807)
    (h : ∀ a c w', Mem g w' (L.set i (zE0 k (.slice a (rows.length + 1) c) (rows ++ [row]))) → lw P n ops rest K (updo ρ dst (.slice a (rows.length + 1) c)) w') :
    lw P n ops (⟨dst, .call { callee := .builtin .append, args := #[x, y], argTypes := #[t, tx] }, ty, pos, aft, none⟩ :: rest) K ρ w := by
  obtain ⟨inf, hinf, hz⟩ := Option.map_eq_some_iff.1 hsz; simp only [Prod.mk.injEq] at hz; obtain ⟨F, ⟨g1, g2⟩, g3⟩ := hs.turn hi
  have h1' : ∀ u ∈ row, u.oneCell' = true := by simpa [List.all_eq_true] using h1
  have hsrc : Src P k tx (.slice (some ⟨b, 0, none⟩) 1 1) 1 row w := Src.ofSlice w htx ⟨b, 0, none⟩ 1 1 row (by omega) (fun q u hq => by rw [Addr.add_lit, Nat.zero_add]; exact hs.cellAt j hj hq) h1'; obtain ⟨a, c, w', hrun, k1, k2, k3⟩ := run_append_row (ty := ty) ht hinf hz.1 hz.2.1 hzc g1 hl h1' hsrc (by rw [hz.2.2]; exact hb) hlen; refine zA hd (v := .slice a (rows.length + 1) c) (w' := w') ?_ (h a c w' (g3 w' _ (fun x => blk (.slice a (rows.length + 1) c) = some x) ⟨k1, fun _ => Iff.rfl⟩ (fun b hb => ?_) (k2.mono fun x _ e => (g2 x).2 e)))
  · subst hx
    simp only [execOp, resolve, invoke, builtin]
    have hmm : (#[x, y] : Array Operand).map (ev ρ) = #[ev ρ x, ev ρ y] := by simp
    simp only [hmm, hy, Sem.run_bind, Sem.run_pure, hrun, Result.andThen_ok]
  · rcases k3 with e | e
    · exact .inl ((g2 b).2 (e ▸ hb))
    · rw [e] at hb; cases hb; exact .inr (Nat.le_refl _)
theorem zBf (hs : Mem g w L) (hd : okd n dst = true) {t e : TypeId} {x : Operand} {z : Value} {k : Nat} {row : List Value} (ht : P.underlying t = some (.slice e)) (hsz : (P.info? e).map (fun i => (i.zero, i.size)) = some (some z, k)) (hx : ev ρ x = .agg row.toArray)
    (hf : Instr.fill (fun i => some (i * k, k)) ((Array.range (1 * k)).map (z.cells[· % z.cells.size]!)) [(0, .agg row.toArray)] = some row.toArray) (hk : 0 < k) (hk2 : k ≤ 1000)
    (h : ∀ b w', Mem g w' (cells b row e :: L) → lw P n ops rest K (updo ρ dst (.slice (some ⟨b, 0, none⟩) 1 1)) w') :
    lw P n ops (⟨dst, .buildSlice t 1 #[(0, x)], ty, pos, aft, none⟩ :: rest) K ρ w := by
  obtain ⟨inf, hinf, hz⟩ := Option.map_eq_some_iff.1 hsz; simp only [Prod.mk.injEq] at hz; refine zA hd (v := .slice (some ⟨w.heap.size, 0, none⟩) 1 1) (w' := w.alloc (.cells row.toArray e)) ?_ (h _ _ (hs.new row e)); have hr := run_buildSlice (P := P) w t e 1 #[(0, .agg row.toArray)] row.toArray inf z ht hinf hz.1 (by rw [hz.2]; omega) (by rw [hz.2]; omega) (by rw [hz.2]; exact hf)
  have hmm : (#[(0, x)] : Array (Nat × Operand)).map (fun (p : Nat × Operand) => (p.1, ev ρ p.2)) = #[(0, ev ρ x)] := by simp
  have e1 : (fun (x : Nat × Operand) => match x with | (i, x) => (i, ev ρ x)) = fun p => (p.1, ev ρ p.2) := by funext ⟨_, _⟩; rfl
  simp only [execOp, e1, hmm, hx, Sem.run_bind, hr, Result.andThen_ok, Sem.run_pure]
theorem zAy {x y : Operand} {t e : TypeId} {k : IntKind} {b o i n c o' q : Nat} {z : Int} (ht : P.underlying t = some (.slice e)) (hsz : (P.info? e).map (·.size) = some q) (hx : ev ρ x = .slice (some ⟨b, o, none⟩) n c) (hy : ev ρ y = .int k z) (hz : z = i) (hi : i < n) (ho : o + i * q = o') :
    (execOp (ev ρ) ⟨dst, .indexAddr t x y, ty, pos, aft, none⟩).run P w = .ok (.value (.pointer (some ⟨b, o', none⟩))) w := by
  subst hz; obtain ⟨inf, hinf, hz⟩ := Option.map_eq_some_iff.1 hsz
  simp [execOp, Instr.indexAt, run_underlying ht, hx, hy, asIntOf, hi, sizeOf, typeInfo, hinf, hz, Addr.add_lit, ho]
theorem zDa {x : Operand} {t : TypeId} {b o : Nat} {cs : List Value} {fs : Array Field} (ht : P.underlying t = some (.struct fs)) (hsz : (P.info? t).map (·.size) = some cs.length) (hx : ev ρ x = .pointer (some ⟨b, o, none⟩)) (hc : ∀ j v, cs[j]? = some v → w.cell? ⟨b, o + j, none⟩ = some v) :
    (execOp (ev ρ) ⟨dst, .load t x, ty, pos, aft, none⟩).run P w = .ok (.value (.agg cs.toArray)) w := by
  obtain ⟨inf, hinf, hz⟩ := Option.map_eq_some_iff.1 hsz
  have hagg : (isAgg t).run P w = .ok true w := by simp [isAgg, run_underlying ht]
  have hl := run_loadCells_list (P := P) w ⟨b, o, none⟩ cs (fun j v hj => by rw [Addr.add_lit]; exact hc j v hj)
  simp [execOp, Instr.loadAt, hx, Instr.sureAddr, loadVar, hagg, sizeOf, typeInfo, hinf, hz, hl]
theorem Mem.rowAt (hs : Mem g w L) (i : Nat) {k m c : Nat} {b off : Nat} {rows : List (List Value)} (hi : L[i]? = some (zE0 k (.slice (some ⟨b, off, none⟩) m c) rows)) {q : Nat} {row : List Value} (hq : rows[q]? = some row) : ∀ j v, row[j]? = some v → w.cell? ⟨b, off + q * k + j, none⟩ = some v := by
  obtain ⟨F, ⟨⟨a, n, c', hv, hn, hc, ha, hr, h⟩, _⟩⟩ := hs.read hi; simp only [Value.slice.injEq] at hv; obtain ⟨rfl, rfl, rfl⟩ := hv; intro j v hj; obtain ⟨hqlt, _⟩ := List.getElem?_eq_some_iff.1 hq; obtain ⟨hjlt, _⟩ := List.getElem?_eq_some_iff.1 hj; have hrl := (hr row (List.mem_of_getElem? hq)).1
  rcases h with h | ⟨b', off', cs, E, he, hb, hz, hcs⟩
  · omega
  · simp only [Option.some.injEq, Addr.mk.injEq] at he
    obtain ⟨rfl, rfl, _⟩ := he; have hle : (q + 1) * k ≤ m * k := Nat.mul_le_mul_right _ (by omega); have hq1 : (q + 1) * k = q * k + k := Nat.succ_mul _ _; rw [Nat.add_assoc]; refine zCc hb ?_; rw [hcs (q * k + j) (by omega)]; exact flat_at (fun r hm => (hr r hm).1) hq hj
theorem run_clip {x y z : Operand} {t e : TypeId} {a : Option Addr} {m c hi : Nat} {k k2 : IntKind} {i j : Int} (ht : P.underlying t = some (.slice e)) (hsz : (P.info? e).map (·.size) = some 1) (hx : ev ρ x = .slice a m c) (hy : ev ρ y = .int k i) (hz : ev ρ z = .int k2 j) (hi' : i = hi) (hj : j = hi) (h2 : hi ≤ c) (ha : hi = 0 ∨ ∃ b off, a = some ⟨b, off, none⟩) :
    (execOp (ev ρ) ⟨dst, .slice t x none (some y) (some z), ty, pos, aft, none⟩).run P w = .ok (.value (.slice a hi hi)) w := by
  obtain ⟨inf, hinf, hs⟩ := Option.map_eq_some_iff.1 hsz
  have h0 : (if hi = 0 then a else a.map (·.add (0 * 1))) = a := by
    rcases ha with h | ⟨b, off, rfl⟩
    · rw [if_pos h]
    · split
      · rfl
      · simp [Addr.add_lit]
  simp only [execOp, Option.map_some, Option.map_none, hx, hy, hz, Instr.sliceAt, Sem.run_bind, run_underlying ht, Result.andThen_ok, Instr.slice, Instr.sliceBounds, Option.isSome_some, Option.isSome_none, if_true, Bool.false_eq_true, if_false, zEi hj h2, zEi hi' (Nat.le_refl _), Sem.run_pure, sizeOf, typeInfo, program, Sem.run, hinf, hs, h0, Nat.sub_zero]
theorem Mem.clip (hs : Mem g w L) (i : Nat) {a : Option Addr} {m c : Nat} {l : List Value} (hi : L[i]? = some (own (.slice a m c) l)) : Mem g w (L.set i (own (.slice a m m) l)) := by
  obtain ⟨F, ⟨⟨a', n', c', hv, hn, hc, ha, h⟩, g2⟩, g3⟩ := hs.turn hi; simp only [Value.slice.injEq] at hv; obtain ⟨rfl, rfl, rfl⟩ := hv; refine g3 w _ F ⟨⟨a, m, m, rfl, hn, Nat.le_refl _, ⟨fun e => by have := ha.1 e; omega, fun b hb => ha.2 b (by cases a <;> exact hb)⟩, ?_⟩, fun x => by rw [g2 x]; cases a <;> rfl⟩ (fun _ h => .inl h) (Keeps.refl _ _)
  rcases h with h | ⟨b, off, cs, E, rfl, hb, hz, hcs⟩
  · exact .inl (by omega)
  · exact .inr ⟨b, off, cs, E, rfl, hb, by omega, hcs⟩
theorem Mem.ownForm (hs : Mem g w L) (i : Nat) {a : Option Addr} {m c : Nat} {l : List Value} (hi : L[i]? = some (own (.slice a m c) l)) : m = l.length ∧ m ≤ c ∧ (m = 0 ∨ ∃ b off, a = some ⟨b, off, none⟩) := by
  obtain ⟨F, ⟨⟨a', n', c', hv, hn, hc, ha, h⟩, g2⟩⟩ := hs.read hi; simp only [Value.slice.injEq] at hv; obtain ⟨rfl, rfl, rfl⟩ := hv; refine ⟨hn, hc, ?_⟩
  rcases h with h | ⟨b, off, cs, E, rfl, hb, hz, hcs⟩
  · exact .inl (by omega)
  · exact .inr ⟨b, off, rfl⟩
end
section
open Go.RowKit
variable {P : Program} {n : Nat} {ops : Array Oper} {rest : List Oper} {K : Env → World → Prop} {ρ : Env} {g w : World} {L : List HP} {dst : Option Tmp} {ty : TypeId} {pos : String} {aft : Array Edge}
theorem zCj (hs : Mem g w L) (i : Nat) (vs : List Value) {x : Operand} {t : TypeId} {b o : Nat} {cs : List Value} {T : TypeId} (hi : L[i]? = some (cells b cs T)) {fs : Array Field} (ht : P.underlying t = some (.struct fs)) (hsz : (P.info? t).map (·.size) = some vs.length) (hv : (cs.drop o).take vs.length = vs) (hx : ev ρ x = .pointer (some ⟨b, o, none⟩)) :
    (execOp (ev ρ) ⟨dst, .load t x, ty, pos, aft, none⟩).run P w = .ok (.value (.agg vs.toArray)) w := by
  have hc : w.rangeAt b o vs := fun j v hj => by
    have hlt := (List.getElem?_eq_some_iff.1 hj).1
    have h2 : ((cs.drop o).take vs.length)[j]? = some v := by rw [hv]; exact hj
    rw [List.getElem?_take_of_lt hlt, List.getElem?_drop] at h2; exact hs.cellAt i hi h2
  simp only [execOp, hx, Sem.run_bind, run_loadAt_mid w b o t vs _ hc ht rfl hsz, Result.andThen_ok, Sem.run_pure]
theorem zGt (hs : Mem g w L) (i : Nat) (cs' : List Value) {x y : Operand} {t : TypeId} {b o : Nat} {cs vs : List Value} {T : TypeId} (hi : L[i]? = some (cells b cs T)) (hx : ev ρ x = .pointer (some ⟨b, o, none⟩)) (hy : ev ρ y = .agg vs.toArray) (hsz : (P.info? t).map (·.size) = some vs.length) (hl : Nat.ble (o + vs.length) cs.length = true) (h1 : vs.all (·.oneCell') = true) (hcs : cs.take o ++ vs ++ cs.drop (o + vs.length) = cs')
    (h : ∀ w', Mem g w' (L.set i (cells b cs' T)) → lw P n ops rest K ρ w') : lw P n ops (⟨none, .store t x y, ty, pos, aft, none⟩ :: rest) K ρ w := by
  obtain ⟨F, ⟨g1, g2⟩, g3⟩ := hs.turn hi
  have hl' : o + vs.length ≤ cs.length := by simpa using hl
  have h1' : ∀ v ∈ vs, v.oneCell' = true := by simpa using h1
  obtain ⟨inf, hinf, hsz⟩ := Option.map_eq_some_iff.1 hsz
  have hst : (storeVar t ⟨b, o, none⟩ (.agg vs.toArray)).run P w = .ok () (w.setRow b cs'.toArray) := by
    have := run_storeCells_at (P := P) b o T vs 0 cs.toArray w g1 (by simpa using hl') h1'; rw [← hcs]
    simpa [storeVar, sizeOf, typeInfo, hinf, hsz, Value.cells] using this
  refine lw_skip rfl (w' := w.setRow b cs'.toArray) ?_ (h _ (g3 _ (cells b cs' T) F ⟨setRow_heap w b cs.toArray cs'.toArray T (0, 0) g1, g2⟩ (fun b hb => .inl hb) ⟨rfl, rfl, rfl, by simp [World.setRow], fun k _ hk => setRow_other w b k _ (fun e => hk ((g2 k).2 e))⟩))
  simp [execOp, hx, hy, Instr.storeAt, Instr.sureAddr, hst]
def ResIs (P : Program) (w : World) (ρ : Env) : ResultVar → Value → Prop
  | .tmp t, v => ρ t = v
  | .cell a T, v => ∃ x, ρ a = .pointer (some x) ∧ (loadVar T x).run P w = .ok v w
def AllR (P : Program) (w : World) (ρ : Env) : List (ResultVar × Value) → Prop
  | [] => True
  | r :: l => ResIs P w ρ r.1 r.2 ∧ AllR P w ρ l
def resValue : List Value → Value
  | [v] => v
  | l => .tuple l.toArray
def resOp (tmps : Array Value) : ResultVar → Sem Value
  | .tmp t => pure (tmps.getD t undef)
  | .cell a t => do loadVar t (← asAddr (tmps.getD a undef))
theorem results_list {tmps : Array Value} : ∀ (rs : List (ResultVar × Value)), (∀ t, tmps.getD t undef = ρ t) → AllR P w ρ rs → ((rs.map (·.1)).mapM (resOp tmps)).run P w = .ok (rs.map (·.2)) w
  | [], _, _ => by simp
  | (r, v) :: rs, ht, ⟨h1, h2⟩ => by
    have ih := results_list rs ht h2
    have hd : (resOp tmps r).run P w = .ok v w := by
      cases r with
      | tmp t => have e : ρ t = v := h1; simp only [resOp, ht, e, Sem.run_pure]
      | cell a T =>
        obtain ⟨x, e1, e2⟩ := h1; simp only [resOp, ht, e1, Sem.run_bind]
        simp [asAddr, e2]
    simp only [List.map_cons, List.mapM_cons, Sem.run_bind, hd, Result.andThen_ok, ih, Sem.run_pure]
theorem resG {fn : Func} {R : Ending → World → Prop} (rs : List (ResultVar × Value)) (h : fn.results = (rs.map (·.1)).toArray) (hall : AllR P w ρ rs) (hR : R (.returned (resValue (rs.map (·.2)))) w) : ResE (n := n) P fn R ρ w := fun a ha => by
  refine ⟨_, ?_, hR⟩; have h1 := results_list (tmps := a.tmps) rs ha.get hall
  show ((do let vs ← fn.results.mapM (resOp a.tmps); pure (if h : vs.size = 1 then vs[0] else .tuple vs)) : Sem Value).run P w = _
  rw [h, List.mapM_toArray]; simp only [Sem.run_bind, Sem.run_map, h1, Result.andThen_ok, Sem.run_pure]
  match rs with
  | [] => rfl
  | [r] => rfl
  | r :: s :: rs => simp [resValue]
theorem zC3 (hs : Mem g w L) (i : Nat) {T : TypeId} {b : Nat} {cs : List Value} {T' : TypeId} (hi : L[i]? = some (cells b cs T')) {fs : Array Field} (hT : P.underlying T = some (.struct fs)) (hsz : (P.info? T).map (·.size) = some cs.length) : (loadVar T ⟨b, 0, none⟩).run P w = .ok (.agg cs.toArray) w := by
  obtain ⟨F, h1, _⟩ := hs.read hi
  have hagg : (isAgg T).run P w = .ok true w := by simp [isAgg, run_underlying hT]
  exact zEl (P := P) (T := T) (vs := cs.toArray) hagg (by simpa using hsz) h1
end
section
open Go.RowKit
variable {P : Program} {n : Nat} {ops : Array Oper} {rest : List Oper} {K : Env → World → Prop} {ρ : Env} {g w : World} {L : List HP} {dst : Option Tmp} {ty : TypeId} {pos : String} {aft : Array Edge}
def RowsR (w : World) (k : Nat) (v : Value) (rows : List (List Value)) : Prop :=
  ∃ a n c, v = .slice a n c ∧ n = rows.length ∧ n ≤ c ∧ (rows = [] ∨ ∃ b off, a = some ⟨b, off, none⟩ ∧ b < w.heap.size ∧ ∀ q row, rows[q]? = some row → ∀ j v, row[j]? = some v → w.cell? ⟨b, off + q * k + j, none⟩ = some v)
theorem RowsR.len {k n c : Nat} {a : Option Addr} {rows : List (List Value)} (h : RowsR w k (.slice a n c) rows) : n = rows.length := by
  obtain ⟨a', n', c', hv, hn, _, _⟩ := h
  cases hv
  exact hn
theorem RowsR.at {k n c : Nat} {a : Option Addr} {rows : List (List Value)} (h : RowsR g k (.slice a n c) rows) (hs : Mem g w L) {q : Nat} {row : List Value} (hq : rows[q]? = some row) : ∃ b off, a = some ⟨b, off, none⟩ ∧ ∀ j v, row[j]? = some v → w.cell? ⟨b, off + q * k + j, none⟩ = some v := by
  obtain ⟨a', n', c', hv, hn, hnc, h⟩ := h
  cases hv
  rcases h with rfl | ⟨b, off, rfl, hb, h⟩
  · simp at hq
  · exact ⟨b, off, rfl, fun j v hj => hs.cellOld (h q row hq j v hj)⟩
theorem RowsR.stay {k : Nat} {v : Value} {rows : List (List Value)} (h : RowsR g k v rows) (hs : Mem g w L) : RowsR w k v rows := by
  obtain ⟨a', n', c', hv, hn, hnc, h⟩ := h; refine ⟨a', n', c', hv, hn, hnc, ?_⟩
  rcases h with h | ⟨b, off, h1, hb, h⟩
  · exact .inl h
  · exact .inr ⟨b, off, h1, Nat.lt_of_lt_of_le hb hs.size, fun q row hq j v hj => hs.cellOld (h q row hq j v hj)⟩
def RdK (g : World) (L : List HP) (k : Nat) (v : Value) (rows : List (List Value)) : Prop := Ens g L fun w => RowsR w k v rows
theorem RowsR.rd {k : Nat} {v : Value} {rows : List (List Value)} (h : RowsR g k v rows) (L : List HP) : RdK g L k v rows := fun _ hs => h.stay hs
theorem RdK.cons {k : Nat} {v : Value} {rows : List (List Value)} {C : HP} (h : RdK g L k v rows) : RdK g (C :: L) k v rows := fun w hs => h w hs.tail
theorem RdK.nil {k : Nat} : RdK g L k (.slice none 0 0) [] := fun _ _ => ⟨none, 0, 0, rfl, rfl, Nat.le_refl _, .inl rfl⟩
theorem RdK.cap {k n c : Nat} {a : Option Addr} {rows : List (List Value)} (h : RdK g L k (.slice a n c) rows) (hs : Mem g w L) : n ≤ c := by
  obtain ⟨a', n', c', hv, hn, hnc, _⟩ := h w hs
  cases hv
  exact hnc
theorem RdK.len {k n c : Nat} {a : Option Addr} {rows : List (List Value)} (h : RdK g L k (.slice a n c) rows) (hs : Mem g w L) : n = rows.length := (h w hs).len
theorem RdK.at {k n c : Nat} {a : Option Addr} {rows : List (List Value)} (h : RdK g L k (.slice a n c) rows) (hs : Mem g w L) (h0 : 0 < rows.length) : ∃ b off, a = some ⟨b, off, none⟩ := by
  obtain ⟨a', n', c', hv, hn, hnc, h⟩ := h w hs
  cases hv
  rcases h with rfl | ⟨b, off, rfl, hb, h⟩
  · simp at h0
  · exact ⟨b, off, rfl⟩
theorem RdK.cell {k n c b off : Nat} {rows : List (List Value)} (h : RdK g L k (.slice (some ⟨b, off, none⟩) n c) rows) (hs : Mem g w L) {q : Nat} {row : List Value} (hq : rows[q]? = some row) {j : Nat} {v : Value} (hj : row[j]? = some v) : w.cell? ⟨b, off + q * k + j, none⟩ = some v := by
  obtain ⟨a', n', c', hv, hn, hnc, h⟩ := h w hs; simp only [Value.slice.injEq] at hv; obtain ⟨rfl, rfl, rfl⟩ := hv
  rcases h with rfl | ⟨b', off', he, hb, h⟩
  · simp at hq
  · simp only [Option.some.injEq, Addr.mk.injEq] at he
    obtain ⟨rfl, rfl, _⟩ := he; exact h q row hq j v hj
theorem rowsV.rows {k : Nat} {v : Value} {rows : List (List Value)} (h : rowsV w k v rows) : RowsR w k v rows := by
  obtain ⟨a, n, c, hv, hn, hc, ha, hr, h⟩ := h; refine ⟨a, n, c, hv, hn, hc, ?_⟩
  rcases Nat.eq_zero_or_pos rows.length with h0 | h0
  · exact .inl (List.eq_nil_of_length_eq_zero h0)
  · rcases h with h | ⟨b, off, cs, E, rfl, hb, hz, hcs⟩
    · omega
    · refine .inr ⟨b, off, rfl, ha.2 b (by rw [hv]; rfl), fun q row hq j v hj => ?_⟩
      obtain ⟨hqlt, _⟩ := List.getElem?_eq_some_iff.1 hq; obtain ⟨hjlt, _⟩ := List.getElem?_eq_some_iff.1 hj; have hrl := (hr row (List.mem_of_getElem? hq)).1; have hle : (q + 1) * k ≤ n * k := Nat.mul_le_mul_right _ (by omega); have hq1 : (q + 1) * k = q * k + k := Nat.succ_mul _ _; rw [Nat.add_assoc]; refine zCc hb ?_; rw [hcs (q * k + j) (by omega)]; exact flat_at (fun r hm => (hr r hm).1) hq hj
theorem RdK.row {k : Nat} {v : Value} {rows : List (List Value)} (i : Nat) (hi : L[i]? = some (zE0 k v rows)) : RdK g L k v rows := Ens.of i hi fun _ _ h => h.1.rows
theorem flat_cell {k : Nat} (hk : 0 < k) : ∀ {rows : List (List Value)}, (∀ r ∈ rows, r.length = k) → ∀ {i : Nat} {v : Value}, rows.flatten[i]? = some v → ∃ row, rows[i / k]? = some row ∧ row[i % k]? = some v
  | [], _, i, v, h => by simp at h
  | r :: rows, hr, i, v, h => by
    have hr0 := hr r (List.mem_cons_self ..); rw [List.flatten_cons] at h
    by_cases hi : i < k
    · rw [List.getElem?_append_left (by omega)] at h
      exact ⟨r, by rw [Nat.div_eq_of_lt hi]; rfl, by rw [Nat.mod_eq_of_lt hi]; exact h⟩
    · rw [List.getElem?_append_right (by omega), hr0] at h
      obtain ⟨row, h1, h2⟩ := flat_cell hk (fun x hx => hr x (List.mem_cons_of_mem _ hx)) h
      have hi' : k ≤ i := by omega
      refine ⟨row, ?_, ?_⟩
      · rw [Nat.div_eq_sub_div hk hi', List.getElem?_cons_succ]; exact h1
      · rw [Nat.mod_eq_sub_mod hi']; exact h2
theorem RowsR.src {w : World} {tx e : TypeId} {k : Nat} {v : Value} {rows : List (List Value)} (htx : P.underlying tx = some (.slice e)) (hk : 0 < k) (h : RowsR w k v rows) (hr : ∀ r ∈ rows, r.length = k ∧ ∀ u ∈ r, u.oneCell' = true) : Src P k tx v rows.length rows.flatten w := by
  obtain ⟨a, n, c, rfl, hn, hnc, h⟩ := h; subst hn
  have h1 : ∀ u ∈ rows.flatten, u.oneCell' = true := fun u hu => by
    obtain ⟨r, hr', hu'⟩ := List.mem_flatten.1 hu; exact (hr r hr').2 u hu'
  rcases h with rfl | ⟨b, off, rfl, hb, h⟩
  · cases a with
    | none => exact Src.ofNil w htx _
    | some a => exact Src.ofSlice w htx a 0 c [] (by simp) (fun q u hq => by simp at hq) (fun u hu => by simp at hu)
  · refine Src.ofSlice w htx ⟨b, off, none⟩ rows.length c rows.flatten (flat_len hr) (fun q u hq => ?_) h1
    obtain ⟨row, h2, h3⟩ := flat_cell hk (fun r hm => (hr r hm).1) hq; have := h _ row h2 _ u h3; rw [Addr.add_lit]; rw [Nat.add_assoc, Nat.div_add_mod' q k] at this; exact this
theorem guard_sl {op : BinOp} {t : TypeId} {x y : Operand} {a : Option Addr} {m c : Nat} {v : Value} : (eqGuard op t x y (.slice a m c) v).run P w = .ok () w := by cases op <;> rfl
theorem run_eqsn {x y : Operand} {t e u : TypeId} {a : Option Addr} {m c : Nat} (ht : P.underlying t = some (.slice e)) (hx : ev ρ x = .slice a m c) (hy : ev ρ y = .slice none 0 0) : (execOp (ev ρ) ⟨dst, .binOp .eql t x y u, ty, pos, aft, none⟩).run P w = .ok (.value (.bool a.isNone)) w := by
  simp only [execOp, hx, hy, Sem.run_bind, guard_sl, Lib.run_eql_slice_nil w t e a m c 0 0 ht, Result.andThen_ok, Sem.run_pure]
theorem run_sliceToK {x z : Operand} {t e : TypeId} {a : Option Addr} {len c hi q : Nat} {k2 : IntKind} {j : Int} (ht : P.underlying t = some (.slice e)) (hsz : (P.info? e).map (·.size) = some q) (hx : ev ρ x = .slice a len c) (hz : ev ρ z = .int k2 j) (hj : j = hi) (h2 : hi ≤ c) (ha : c = 0 ∨ ∃ b off, a = some ⟨b, off, none⟩) :
    (execOp (ev ρ) ⟨dst, .slice t x none (some z) none, ty, pos, aft, none⟩).run P w = .ok (.value (.slice a hi c)) w := by
  obtain ⟨inf, hinf, hs⟩ := Option.map_eq_some_iff.1 hsz
  have h0 : (if c = 0 then a else a.map (·.add (0 * q))) = a := by
    rcases ha with h | ⟨b, off, rfl⟩
    · rw [if_pos h]
    · split
      · rfl
      · simp [Addr.add_lit]
  simp only [execOp, Option.map_some, Option.map_none, hx, hz, Instr.sliceAt, Sem.run_bind, run_underlying ht, Result.andThen_ok, Instr.slice, Instr.sliceBounds, Option.isSome_none, if_true, Bool.false_eq_true, if_false, zEi hj h2, Sem.run_pure, sizeOf, typeInfo, program, Sem.run, hinf, hs, Nat.sub_zero, h0]
theorem run_append_rows {w : World} {t tx ty e : TypeId} {i : TypeInfo} {z : Value} {k : Nat} (ht : P.underlying t = some (.slice e)) (hi : P.info? e = some i) (hz : i.zero = some z) (hk : i.size = k) (hzc : z.cells.size = k)
    {v x : Value} {rows news : List (List Value)} (hn0 : 0 < news.length) (hown : rowsV w k v rows) (hl : ∀ r ∈ news, r.length = k ∧ ∀ u ∈ r, u.oneCell' = true) (hsrc : Src P k tx x news.length news.flatten w) (hb : (rows.length + news.length) * i.bytes ≤ 140737488355328) (hlen : rows.length + news.length ≤ 9223372036854775807) :
    ∃ a c w', (Builtin.append_ #[t, tx] ty #[v, x]).run P w = .ok (.slice a (rows.length + news.length) c) w' ∧ rowsV w' k (.slice a (rows.length + news.length) c) (rows ++ news) ∧ Keeps (fun k => blk v = some k) w w' ∧ (blk (.slice a (rows.length + news.length) c) = blk v ∨ blk (.slice a (rows.length + news.length) c) = some w.heap.size) := by
  obtain ⟨a, n, c, rfl, hn, hc, ha, hr, h⟩ := hown; subst hn hk; have hfl := flat_len hr; have hfn := flat_len hl
  have hr2 : ∀ r ∈ rows ++ news, r.length = i.size ∧ ∀ u ∈ r, u.oneCell' = true := fun r hm => by
    rcases List.mem_append.1 hm with hm | hm
    · exact hr r hm
    · exact hl r hm
  have hmul : (rows.length + news.length) * i.size = rows.length * i.size + news.length * i.size := Nat.add_mul _ _ _
  by_cases hroom : rows.length + news.length ≤ c
  · rcases h with h | ⟨b, off, cs, E, rfl, hb', hcap, hcs⟩
    · omega
    · have hcm : (rows.length + news.length) * i.size ≤ c * i.size := Nat.mul_le_mul_right _ hroom
      obtain ⟨cs', h2, hsz, hlo, hmid, _, hk, hz2⟩ := zFm news.flatten (off + rows.length * i.size) w cs hb' (by omega)
      have hr' := run_append_room_src (P := P) w t tx ty e i ht hi b off rows.length c x news.length news.flatten hsrc hroom
        (fun j hj => by rw [zCc hb' (Array.getElem?_eq_getElem (by omega))]; rfl) (fun j _ => free_at hb')
      refine ⟨_, _, _, hr', ⟨_, _, _, rfl, by simp, hroom, ⟨(fun h => by cases h), fun b' hb' => by rw [hz2]; exact ha.2 b' hb'⟩, hr2, .inr ⟨b, off, cs', E, rfl, h2, by omega, fun j hj => ?_⟩⟩, hk.mono (fun k _ hk => by simp [blk, hk]), .inl rfl⟩; rw [List.flatten_append]
      by_cases hj' : j < rows.length * i.size
      · rw [hlo (off + j) (by omega), hcs j hj', List.getElem?_append_left (by omega)]
      · have := hmid (j - rows.length * i.size) (by omega)
        rw [show off + rows.length * i.size + (j - rows.length * i.size) = off + j by omega] at this; rw [this, List.getElem?_append_right (by omega), hfl]
  · have hold : (Builtin.firstCells i.size rows.length (.slice a rows.length c)).run P w.drew = .ok rows.flatten.toArray w.drew := by
      cases a with
      | none =>
        have hc0 := ha.1 rfl; have : rows = [] := List.eq_nil_of_length_eq_zero (by omega); subst this; exact run_firstCells_none w.drew i.size 0 0 c
      | some a =>
        refine run_firstCells_some w.drew i.size rows.length a rows.length c rows.flatten (by rw [hfl]) (fun j u hj => ?_); have hjl := (List.getElem?_eq_some_iff.1 hj).1
        rcases h with h | ⟨b, off, cs, E, ha', hb, _, hcs⟩
        · have : rows.length = 0 := by omega
          rw [hfl, this] at hjl
          omega
        · obtain rfl := Option.some.inj ha'
          rw [Addr.add_lit]; exact zCc hb (by rw [hcs j (by omega), hj])
    have hr' := run_append_grow_src (P := P) w t tx ty e i z ht hi hz a rows.length c rows.flatten hold x news.length news.flatten hsrc (by omega) (by omega) (growslice_fits (by omega) hb); have hge := grownCap_ge w (rows.length + news.length) c e; refine ⟨_, _, _, hr', ⟨_, _, _, rfl, by simp, hge, ⟨(fun h => by cases h), fun b' hb' => by cases hb'; simp⟩, hr2, .inr ⟨_, 0, _, e, rfl, heap_alloc_new _ _, ?_, fun j hj => ?_⟩⟩, ((Keeps.refl _ w).drew).alloc _, .inr rfl⟩
    · simp only [Array.size_append, List.size_toArray, List.length_append, size_zeroCells, hzc, hfl, hfn, Nat.zero_add]
      have e1 : (grownCap w (rows.length + news.length) c e) * i.size = (rows.length + news.length) * i.size + (grownCap w (rows.length + news.length) c e - (rows.length + news.length)) * i.size := by rw [← Nat.add_mul]; congr 1; omega
      omega
    · rw [Nat.zero_add, Array.getElem?_append_left (by simp only [List.size_toArray, List.length_append, hfl, hfn]; omega), List.getElem?_toArray]
      simp
theorem lw_appendRows (hs : Mem g w L) (hd : okd n dst = true) (i : Nat) {x y : Operand} {t tx e : TypeId} {v xv : Value} {rows news : List (List Value)} {k : Nat} (hi : L[i]? = some (zE0 k v rows)) (hn0 : 0 < news.length) {z : Value} {by_ : Nat}
    (ht : P.underlying t = some (.slice e)) (hsz : (P.info? e).map (fun i => (i.zero, i.size, i.bytes)) = some (some z, k, by_)) (hzc : z.cells.size = k) (hl : ∀ r ∈ news, r.length = k ∧ ∀ u ∈ r, u.oneCell' = true)
    (hx : ev ρ x = v) (hy : ev ρ y = xv) (hsrc : Src P k tx xv news.length news.flatten w) (hb : (rows.length + news.length) * by_ ≤ 140737488355328) (hlen : rows.length + news.length ≤ 9223372036854775807)
    (h : ∀ a c w', Mem g w' (L.set i (zE0 k (.slice a (rows.length + news.length) c) (rows ++ news))) → lw P n ops rest K (updo ρ dst (.slice a (rows.length + news.length) c)) w') :
    lw P n ops (⟨dst, .call { callee := .builtin .append, args := #[x, y], argTypes := #[t, tx] }, ty, pos, aft, none⟩ :: rest) K ρ w := by
  obtain ⟨inf, hinf, hz⟩ := Option.map_eq_some_iff.1 hsz; simp only [Prod.mk.injEq] at hz; obtain ⟨F, ⟨g1, g2⟩, g3⟩ := hs.turn hi; obtain ⟨a, c, w', hrun, k1, k2, k3⟩ := run_append_rows (ty := ty) ht hinf hz.1 hz.2.1 hzc hn0 g1 hl hsrc (by rw [hz.2.2]; exact hb) hlen; refine zA hd (v := .slice a (rows.length + news.length) c) (w' := w') ?_ (h a c w' (g3 w' _ (fun x => blk (.slice a (rows.length + news.length) c) = some x) ⟨k1, fun _ => Iff.rfl⟩ (fun b hb => ?_) (k2.mono fun x _ e => (g2 x).2 e)))
  · subst hx hy
    simp only [execOp, resolve, invoke, builtin]
    have hmm : (#[x, y] : Array Operand).map (ev ρ) = #[ev ρ x, ev ρ y] := by simp
    simp only [hmm, Sem.run_bind, Sem.run_pure, hrun, Result.andThen_ok]
  · rcases k3 with e | e
    · exact .inl ((g2 b).2 (e ▸ hb))
    · rw [e] at hb; cases hb; exact .inr (Nat.le_refl _)
theorem lw_appendRows0 (hd : okd n dst = true) {x y : Operand} {t tx e : TypeId} {b : Nat} {xv : Value} {k : Nat} {z : Value} {by_ : Nat} (ht : P.underlying t = some (.slice e)) (hsz : (P.info? e).map (fun i => (i.zero, i.size, i.bytes)) = some (some z, k, by_))
    (hx : ev ρ x = .slice (some ⟨b, 0, none⟩) 0 0) (hy : ev ρ y = xv) (hsrc : Src P k tx xv 0 [] w) (h : lw P n ops rest K (updo ρ dst (.slice (some ⟨b, 0, none⟩) 0 0)) w) :
    lw P n ops (⟨dst, .call { callee := .builtin .append, args := #[x, y], argTypes := #[t, tx] }, ty, pos, aft, none⟩ :: rest) K ρ w := by
  obtain ⟨inf, hinf, hz⟩ := Option.map_eq_some_iff.1 hsz; simp only [Prod.mk.injEq] at hz; obtain ⟨hz1, rfl, _⟩ := hz; refine zA hd (v := .slice (some ⟨b, 0, none⟩) 0 0) (w' := w) ?_ h; subst hy; have hc0 := hsrc.cells; have hl0 := hsrc.len
  have hr : (Builtin.append_ #[t, tx] ty #[.slice (some ⟨b, 0, none⟩) 0 0, ev ρ y]).run P w = .ok (.slice (some ⟨b, 0, none⟩) 0 0) w := by
    rcases hsrc.kind with ⟨e', hk⟩ | hk <;> simp [Builtin.append_, run_underlying ht, run_underlying hk, sizeOf, typeInfo, hinf, hl0, hc0, storeCells]
  simp only [execOp, resolve, invoke, builtin]
  have hmm : (#[x, y] : Array Operand).map (ev ρ) = #[ev ρ x, ev ρ y] := by simp
  simp only [hmm, hx, Sem.run_bind, Sem.run_pure, hr, Result.andThen_ok]
theorem Mem.noRows (hs : Mem g w L) (i : Nat) {b k : Nat} {T : TypeId} (hi : L[i]? = some (cells b [] T)) : Mem g w (L.set i (zE0 k (.slice (some ⟨b, 0, none⟩) 0 0) [])) := by
  obtain ⟨F, ⟨g1, g2⟩, g3⟩ := hs.turn hi; have hb : b < w.heap.size := (Array.getElem?_eq_some_iff.1 g1).1; exact g3 w _ F ⟨⟨_, 0, 0, rfl, rfl, Nat.le_refl _, ⟨fun h => rfl, fun x hx => by cases hx; exact hb⟩, fun r h => by simp at h, .inl rfl⟩, fun x => by rw [g2 x]; simp [blk, eq_comm]⟩ (fun _ h => .inl h) (Keeps.refl _ _)
theorem zGa (hs : Mem g w L) (hd : okd n dst = true) {t e : TypeId} {z : Value} {k by_ : Nat} (ht : P.underlying t = some (.slice e)) (hsz : (P.info? e).map (fun i => (i.zero, i.size, i.bytes)) = some (some z, k, by_))
    (h : ∀ b w', Mem g w' (zE0 k (.slice (some ⟨b, 0, none⟩) 0 0) [] :: L) → lw P n ops rest K (updo ρ dst (.slice (some ⟨b, 0, none⟩) 0 0)) w') :
    lw P n ops (⟨dst, .buildSlice t 0 #[], ty, pos, aft, none⟩ :: rest) K ρ w := by
  obtain ⟨inf, hinf, hz⟩ := Option.map_eq_some_iff.1 hsz; simp only [Prod.mk.injEq] at hz; refine zA hd (v := .slice (some ⟨w.heap.size, 0, none⟩) 0 0) (w' := w.alloc (.cells #[] e)) ?_ (h _ _ ((hs.new [] e).noRows 0 rfl))
  have hr : (Instr.buildSlice t 0 #[]).run P w = .ok (.slice (some ⟨w.heap.size, 0, none⟩) 0 0) (w.alloc (.cells #[] e)) := by simp [Instr.buildSlice, run_underlying ht, sizeOf, typeInfo, zeroValue, hinf, newRow, Instr.fill, show Array.range 0 = #[] from by simp]
  simp only [execOp, Array.map_empty, Sem.run_bind, Sem.run_pure]
  first
  | simp only [hr, Result.andThen_ok, Sem.run_pure]
  | (have e1 : (fun (x : Nat × Operand) => match x with | (i, x) => (i, ev ρ x)) = fun p => (p.1, ev ρ p.2) := by funext ⟨_, _⟩; rfl
     simp [hr, Result.andThen_ok])
theorem lw_makeRows (hs : Mem g w L) (hd : okd n dst = true) {x y : Operand} {t e : TypeId} {c k : Nat} {kl kc : IntKind} {j : Int} {z : Value} {by_ : Nat} (ht : P.underlying t = some (.slice e)) (hsz : (P.info? e).map (fun i => (i.zero, i.size, i.bytes)) = some (some z, k, by_))
    (hx : ev ρ x = .int kl 0) (hy : ev ρ y = .int kc j) (hj : j = c) (hb : by_ * c ≤ 281474976710656) (h63 : c ≤ 9223372036854775807)
    (h : ∀ b w', Mem g w' (zE0 k (.slice (some ⟨b, 0, none⟩) 0 c) [] :: L) → lw P n ops rest K (updo ρ dst (.slice (some ⟨b, 0, none⟩) 0 c)) w') :
    lw P n ops (⟨dst, .makeSlice t x y, ty, pos, aft, none⟩ :: rest) K ρ w := by
  subst hj; obtain ⟨inf, hinf, hz⟩ := Option.map_eq_some_iff.1 hsz; simp only [Prod.mk.injEq] at hz; obtain ⟨hz1, hz2, hz3⟩ := hz; have hr := run_make (P := P) w t e inf z ht hinf hz1 kl kc 0 c (by omega) (by omega) (by rw [hz3]; omega) (by omega); simp only [Int.toNat_natCast, hz2, Int.toNat_zero] at hr; refine zA hd (v := .slice (some ⟨w.heap.size, 0, none⟩) 0 c) (w' := w.alloc (.cells (madeCells z.cells (c * k)) e)) ?_ (h _ _ (hs.add (F' := fun x => blk (.slice (some ⟨w.heap.size, 0, none⟩) 0 c) = some x) ⟨?_, fun _ => Iff.rfl⟩ (fun b hb => ?_) ((Keeps.refl _ _).alloc _)))
  · simp only [execOp, hx, hy, Sem.run_bind, hr, Result.andThen_ok, Sem.run_pure]
    first | done | rfl | simp
  · refine ⟨_, _, _, rfl, rfl, Nat.zero_le _, ⟨(fun h => by cases h), fun x hx => ?_⟩, (fun r h => by simp at h), .inr ⟨w.heap.size, 0, madeCells z.cells (c * k), e, rfl, World.alloc_heap_new w _, by rw [size_madeCells]; omega, fun i hi => by omega⟩⟩
    simp only [blk, Option.some.injEq] at hx; subst hx; exact lt_of_block (World.alloc_heap_new w _)
  · simp only [blk, Option.some.injEq] at hb
    omega
theorem lw_build2 (hs : Mem g w L) (hd : okd n dst = true) {t e : TypeId} {x y : Operand} {z : Value} {k : Nat} {r1 r2 : List Value} (ht : P.underlying t = some (.slice e)) (hsz : (P.info? e).map (fun i => (i.zero, i.size)) = some (some z, k)) (hx : ev ρ x = .agg r1.toArray) (hy : ev ρ y = .agg r2.toArray)
    (hf : Instr.fill (fun i => some (i * k, k)) ((Array.range (2 * k)).map (z.cells[· % z.cells.size]!)) [(0, .agg r1.toArray), (1, .agg r2.toArray)] = some (r1 ++ r2).toArray) (hk : 0 < k) (hk2 : k ≤ 1000)
    (h : ∀ b w', Mem g w' (cells b (r1 ++ r2) e :: L) → lw P n ops rest K (updo ρ dst (.slice (some ⟨b, 0, none⟩) 2 2)) w') :
    lw P n ops (⟨dst, .buildSlice t 2 #[(0, x), (1, y)], ty, pos, aft, none⟩ :: rest) K ρ w := by
  obtain ⟨inf, hinf, hz⟩ := Option.map_eq_some_iff.1 hsz; simp only [Prod.mk.injEq] at hz; refine zA hd (v := .slice (some ⟨w.heap.size, 0, none⟩) 2 2) (w' := w.alloc (.cells (r1 ++ r2).toArray e)) ?_ (h _ _ (hs.new (r1 ++ r2) e)); have hr := run_buildSlice (P := P) w t e 2 #[(0, .agg r1.toArray), (1, .agg r2.toArray)] (r1 ++ r2).toArray inf z ht hinf hz.1 (by rw [hz.2]; omega) (by rw [hz.2]; omega) (by rw [hz.2]; exact hf)
  have hmm : (#[(0, x), (1, y)] : Array (Nat × Operand)).map (fun (p : Nat × Operand) => (p.1, ev ρ p.2)) = #[(0, ev ρ x), (1, ev ρ y)] := by simp
  have e1 : (fun (x : Nat × Operand) => match x with | (i, x) => (i, ev ρ x)) = fun p => (p.1, ev ρ p.2) := by funext ⟨_, _⟩; rfl
  simp only [execOp, e1, hmm, hx, hy, Sem.run_bind, hr, Result.andThen_ok, Sem.run_pure]
theorem Mem.asRows (hs : Mem g w L) (i : Nat) {b k m : Nat} {cs : List Value} {T : TypeId} {rows : List (List Value)} (hi : L[i]? = some (cells b cs T)) (hf : rows.flatten = cs) (hm : m = rows.length) (hr : ∀ r ∈ rows, r.length = k ∧ ∀ u ∈ r, u.oneCell' = true) : Mem g w (L.set i (zE0 k (.slice (some ⟨b, 0, none⟩) m m) rows)) := by
  subst hm; obtain ⟨F, ⟨g1, g2⟩, g3⟩ := hs.turn hi; have hb : b < w.heap.size := (Array.getElem?_eq_some_iff.1 g1).1; have hl := flat_len hr; refine g3 w _ F ⟨⟨_, rows.length, rows.length, rfl, rfl, Nat.le_refl _, ⟨fun h => (by cases h), fun x hx => by cases hx; exact hb⟩, hr, .inr ⟨b, 0, cs.toArray, T, rfl, g1, by simp only [List.size_toArray, ← hf, hl]; omega, fun j hj => by rw [Nat.zero_add, hf]; simp⟩⟩, fun x => by rw [g2 x]; simp [blk, eq_comm]⟩ (fun _ h => .inl h) (Keeps.refl _ _)
theorem RdK.one {b k : Nat} {cs : List Value} {T : TypeId} (i : Nat) (hi : L[i]? = some (cells b cs T)) (hk : cs.length = k) : RdK g L k (.slice (some ⟨b, 0, none⟩) 1 1) [cs] := fun w hs => by
  obtain ⟨F, h, _⟩ := hs.read hi; refine ⟨_, 1, 1, rfl, rfl, Nat.le_refl _, .inr ⟨b, 0, rfl, lt_of_block h, fun q row hq j v hj => ?_⟩⟩
  cases q with
  | zero => simp only [List.getElem?_cons_zero, Option.some.injEq] at hq; subst hq; simp only [Nat.zero_mul, Nat.zero_add]; exact hs.cellAt i hi hj
  | succ q => simp at hq
end
end Go.Proofs.YthejaanobeonnaaGreatDoor
