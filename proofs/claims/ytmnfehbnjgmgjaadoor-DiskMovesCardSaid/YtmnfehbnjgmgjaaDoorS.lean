/- Slicing; chunks put together (star, ex), families of chunks under keys (famC). -/
import Derived.Test.YtmnfehbnjgmgjaaDoorM
import Derived.Scope
namespace Go.Proofs.YtmnfehbnjgmgjaaDoor
set_option linter.all false
open Go.RowKit
variable {P : Program} {n : Nat} {ops : Array Oper} {rest : List Oper} {K : Env → World → Prop} {ρ : Env} {g w : World} {L : List HP} {dst : Option Tmp} {ty : TypeId} {pos : String} {aft : Array Edge}

theorem cw_scope {c : Code} {N R : Post} {B : List (Nat × Post)} (h : cw P n c N B R ρ w) : cw P n (.scope c) N B R ρ w := fun a ha =>
  wp_scope_straight (wp_mono (h a ha) fun e a w q => by cases e <;> exact q)
theorem cw_label {l : Nat} {N R : Post} {B : List (Nat × Post)} (h : N ρ w) : cw P n (.label l) N B R ρ w := fun a ha => wp_label ⟨ρ, ha, h⟩

/-! ### s[lo:hi] -/
def subA (a : Option Addr) (c lo : Nat) : Option Addr := if c = lo then a else a.map (·.add lo)
/-- What s[lo:hi] is. -/
def subS (a : Option Addr) (c lo hi : Nat) : Value := .slice (subA a c lo) (hi - lo) (c - lo)
theorem run_bound {k : IntKind} {i : Int} {m y : Nat} {code : BoundsCode} (hi : i = m) (h : m ≤ y) : (Instr.sliceBound (.int k i) y code).run P w = .ok m w := by
  subst hi
  simp [Instr.sliceBound, asIntOf, h]
theorem run_slice {x y z : Operand} {t e : TypeId} {a : Option Addr} {len c lo hi : Nat} {k k2 : IntKind} {i j : Int} (ht : P.underlying t = some (.slice e)) (hsz : (P.info? e).map (·.size) = some 1) (hx : ev ρ x = .slice a len c) (hy : ev ρ y = .int k i) (hz : ev ρ z = .int k2 j) (hlo : i = lo) (hj : j = hi) (h1 : lo ≤ hi) (h2 : hi ≤ c) :
    (execOp (ev ρ) ⟨dst, .slice t x (some y) (some z) none, ty, pos, aft, none⟩).run P w = .ok (.value (subS a c lo hi)) w := by
  obtain ⟨inf, hinf, hs⟩ := Option.map_eq_some_iff.1 hsz
  simp only [execOp, Option.map_some, Option.map_none, hx, hy, hz, Instr.sliceAt, Sem.run_bind, run_underlying ht, Result.andThen_ok, Instr.slice, Instr.sliceBounds, Option.isSome_none, if_true, Bool.false_eq_true, if_false, run_bound hj h2, run_bound hlo h1, Sem.run_pure, sizeOf, typeInfo, program, Sem.run, hinf, hs, Nat.mul_one]
  rfl
theorem run_sliceFrom {x y : Operand} {t e : TypeId} {a : Option Addr} {len c lo : Nat} {k : IntKind} {i : Int} (ht : P.underlying t = some (.slice e)) (hsz : (P.info? e).map (·.size) = some 1) (hx : ev ρ x = .slice a len c) (hy : ev ρ y = .int k i) (hlo : i = lo) (h1 : lo ≤ len) :
    (execOp (ev ρ) ⟨dst, .slice t x (some y) none none, ty, pos, aft, none⟩).run P w = .ok (.value (subS a c lo len)) w := by
  obtain ⟨inf, hinf, hs⟩ := Option.map_eq_some_iff.1 hsz
  simp only [execOp, Option.map_some, Option.map_none, hx, hy, Instr.sliceAt, Sem.run_bind, run_underlying ht, Result.andThen_ok, Instr.slice, Instr.sliceBounds, Option.isSome_none, Bool.false_eq_true, if_false, run_bound hlo h1, Sem.run_pure, sizeOf, typeInfo, program, Sem.run, hinf, hs, Nat.mul_one]
  rfl
theorem run_sliceTo {x z : Operand} {t e : TypeId} {a : Option Addr} {len c hi : Nat} {k2 : IntKind} {j : Int} (ht : P.underlying t = some (.slice e)) (hsz : (P.info? e).map (·.size) = some 1) (hx : ev ρ x = .slice a len c) (hz : ev ρ z = .int k2 j) (hj : j = hi) (h2 : hi ≤ c) :
    (execOp (ev ρ) ⟨dst, .slice t x none (some z) none, ty, pos, aft, none⟩).run P w = .ok (.value (subS a c 0 hi)) w := by
  obtain ⟨inf, hinf, hs⟩ := Option.map_eq_some_iff.1 hsz
  simp only [execOp, Option.map_some, Option.map_none, hx, hz, Instr.sliceAt, Sem.run_bind, run_underlying ht, Result.andThen_ok, Instr.slice, Instr.sliceBounds, Option.isSome_none, if_true, Bool.false_eq_true, if_false, run_bound hj h2, Sem.run_pure, sizeOf, typeInfo, program, Sem.run, hinf, hs, Nat.mul_one]
  rfl
/-! ### s[lo:hi] of a string -/
theorem run_strTo {x z : Operand} {t : TypeId} {s : ByteArray} {hi : Nat} {k2 : IntKind} {j : Int} (ht : P.underlying t = some .string) (hx : ev ρ x = .string s) (hz : ev ρ z = .int k2 j) (hj : j = hi) (h2 : hi ≤ s.size) :
    (execOp (ev ρ) ⟨dst, .slice t x none (some z) none, ty, pos, aft, none⟩).run P w = .ok (.value (.string (s.extract 0 hi))) w := by
  simp only [execOp, Option.map_some, Option.map_none, hx, hz, Instr.sliceAt, Sem.run_bind, run_underlying ht, Result.andThen_ok, Instr.slice, Instr.sliceBounds, Option.isSome_none, Bool.false_eq_true, if_false, run_bound hj h2, Sem.run_pure]
theorem run_strFrom {x y : Operand} {t : TypeId} {s : ByteArray} {lo : Nat} {k : IntKind} {i : Int} (ht : P.underlying t = some .string) (hx : ev ρ x = .string s) (hy : ev ρ y = .int k i) (hlo : i = lo) (h1 : lo ≤ s.size) :
    (execOp (ev ρ) ⟨dst, .slice t x (some y) none none, ty, pos, aft, none⟩).run P w = .ok (.value (.string (s.extract lo s.size))) w := by
  simp only [execOp, Option.map_some, Option.map_none, hx, hy, Instr.sliceAt, Sem.run_bind, run_underlying ht, Result.andThen_ok, Instr.slice, Instr.sliceBounds, Option.isSome_none, Bool.false_eq_true, if_false, run_bound hlo h1, Sem.run_pure]
theorem run_str2 {x y z : Operand} {t : TypeId} {s : ByteArray} {lo hi : Nat} {k k2 : IntKind} {i j : Int} (ht : P.underlying t = some .string) (hx : ev ρ x = .string s) (hy : ev ρ y = .int k i) (hz : ev ρ z = .int k2 j) (hlo : i = lo) (hj : j = hi) (h1 : lo ≤ hi) (h2 : hi ≤ s.size) :
    (execOp (ev ρ) ⟨dst, .slice t x (some y) (some z) none, ty, pos, aft, none⟩).run P w = .ok (.value (.string (s.extract lo hi))) w := by
  simp only [execOp, Option.map_some, Option.map_none, hx, hy, hz, Instr.sliceAt, Sem.run_bind, run_underlying ht, Result.andThen_ok, Instr.slice, Instr.sliceBounds, Option.isSome_none, Bool.false_eq_true, if_false, run_bound hj h2, run_bound hlo h1, Sem.run_pure]
theorem blk_sub (a : Option Addr) (m c lo hi : Nat) : blk (subS a c lo hi) = blk (.slice a m c) := by
  cases a with
  | none => simp [subS, subA, blk]
  | some a =>
    by_cases h : c = lo
    · simp [subS, subA, h, blk]
    · have : (a.add lo).block = a.block := by unfold Addr.add; split <;> rfl
      simp [subS, subA, h, blk, this]
theorem sub_reads {w : World} {a : Option Addr} {m c lo hi : Nat} {l : List Value} (h1 : lo ≤ hi) (h2 : hi ≤ m) (hn : m = l.length) (hc : m ≤ c) {b off : Nat} {cs : Array Value} (ha : a = some ⟨b, off, none⟩) (hz : off + c ≤ cs.size) (hcs : ∀ i, i < l.length → cs[off + i]? = l[i]?) :
    (c - lo = 0) ∨ ∃ b' off', subA a c lo = some ⟨b', off', none⟩ ∧ b' = b ∧ off' + (c - lo) ≤ cs.size ∧ ∀ i, i < ((l.take hi).drop lo).length → cs[off' + i]? = ((l.take hi).drop lo)[i]? := by
  subst ha
  by_cases h : c = lo
  · exact .inl (by omega)
  · refine .inr ⟨b, off + lo, by simp [subA, h, Addr.add_lit], rfl, by omega, fun i hi' => ?_⟩
    simp only [List.length_drop, List.length_take] at hi'
    rw [List.getElem?_drop, List.getElem?_take_of_lt (by omega), Nat.add_assoc]
    exact hcs _ (by omega)
theorem seqV.sub {w : World} {a : Option Addr} {m c lo hi : Nat} {l : List Value} (h : seqV w (.slice a m c) l) (h1 : lo ≤ hi) (h2 : hi ≤ m) : seqV w (subS a c lo hi) ((l.take hi).drop lo) := by
  obtain ⟨hn, hc, ha, h⟩ := h.open
  refine ⟨_, _, _, rfl, by simp; omega, by omega, ?_, ?_⟩
  · intro e
    by_cases hl : c = lo
    · omega
    · have : a = none := by simpa [subA, hl] using e
      have := ha this
      omega
  · rcases h with h | ⟨b, off, cs, E, fz, rfl, hb, hz, hcs⟩
    · exact .inl (by omega)
    · rcases sub_reads (w := w) h1 h2 hn hc rfl hz hcs with h | ⟨b', off', e1, rfl, e3, e4⟩
      · exact .inl h
      · exact .inr ⟨_, off', cs, E, fz, e1, hb, e3, e4⟩
theorem ownV.sub {w : World} {a : Option Addr} {m c lo hi : Nat} {l : List Value} (h : ownV w (.slice a m c) l) (h1 : lo ≤ hi) (h2 : hi ≤ m) : ownV w (subS a c lo hi) ((l.take hi).drop lo) := by
  have hs := h.seq.sub h1 h2
  obtain ⟨a', n', c', hv, hn, hc, ha, h⟩ := h
  simp only [Value.slice.injEq] at hv
  obtain ⟨rfl, rfl, rfl⟩ := hv
  obtain ⟨a2, n2, c2, hv, k1, k2, k3, _⟩ := hs
  simp only [subS, Value.slice.injEq] at hv
  obtain ⟨rfl, rfl, rfl⟩ := hv
  refine ⟨_, _, _, rfl, k1, k2, ⟨k3, fun b hb => ha.2 b (by rw [← blk_sub a m c lo hi]; exact hb)⟩, ?_⟩
  rcases h with h | ⟨b, off, cs, E, rfl, hb, hz, hcs⟩
  · exact .inl (by omega)
  · rcases sub_reads (w := w) h1 h2 hn hc rfl hz hcs with h | ⟨b', off', e1, rfl, e3, e4⟩
    · exact .inl h
    · exact .inr ⟨_, off', cs, E, e1, hb, e3, e4⟩
theorem Rd.sub {a : Option Addr} {m c lo hi : Nat} {l : List Value} (h : Rd g L (.slice a m c) l) (h1 : lo ≤ hi) (h2 : hi ≤ m) : Rd g L (subS a c lo hi) ((l.take hi).drop lo) := fun w hs => (h w hs).sub h1 h2
/-- A slice of one's own is cut. -/
theorem Mem.cut (hs : Mem g w L) (i : Nat) {a : Option Addr} {m c lo hi : Nat} {l : List Value} (hi' : L[i]? = some (own (.slice a m c) l)) (h1 : lo ≤ hi) (h2 : hi ≤ m) : Mem g w (L.set i (own (subS a c lo hi) ((l.take hi).drop lo))) := by
  obtain ⟨F, ⟨g1, g2⟩, g3⟩ := hs.turn hi'
  exact g3 w _ F ⟨g1.sub h1 h2, fun x => by rw [g2 x, blk_sub a m c lo hi]⟩ (fun _ h => .inl h) (Keeps.refl _ _)

/-- What an own slice that is not empty holds. -/
theorem Mem.ownCells (hs : Mem g w L) (i : Nat) {a : Option Addr} {m c : Nat} {l : List Value} (hi : L[i]? = some (own (.slice a m c) l)) (h : 0 < l.length) : ∃ b off, a = some ⟨b, off, none⟩ ∧ ∀ j v, l[j]? = some v → w.cell? ⟨b, off + j, none⟩ = some v := by
  obtain ⟨F, ⟨g1, _⟩⟩ := hs.read hi
  have h2 := g1.seq
  have hn := h2.len
  obtain ⟨b, off, h3, _, h4⟩ := h2.cell (i := 0) (by omega)
  refine ⟨b, off, h3, fun j v hj => ?_⟩
  obtain ⟨hlt, rfl⟩ := List.getElem?_eq_some_iff.1 hj
  exact h4 j hlt
theorem Rd.cells' {a : Option Addr} {m c : Nat} {l : List Value} (h : Rd g L (.slice a m c) l) (hs : Mem g w L) (h0 : 0 < l.length) : ∃ b off, a = some ⟨b, off, none⟩ ∧ ∀ j v, l[j]? = some v → w.cell? ⟨b, off + j, none⟩ = some v := by
  have h2 := h.seq hs
  have hn := h2.len
  obtain ⟨b, off, h3, _, h4⟩ := h2.cell (i := 0) (by omega)
  refine ⟨b, off, h3, fun j v hj => ?_⟩
  obtain ⟨hlt, rfl⟩ := List.getElem?_eq_some_iff.1 hj
  exact h4 j hlt

/-- What a slice that is read holds. -/
theorem Rd.cellAt {b off m c : Nat} {l : List Value} (h : Rd g L (.slice (some ⟨b, off, none⟩) m c) l) (hs : Mem g w L) {j : Nat} {v : Value} (hj : l[j]? = some v) : w.cell? ⟨b, off + j, none⟩ = some v := by
  obtain ⟨hlt, _⟩ := List.getElem?_eq_some_iff.1 hj
  obtain ⟨b', off', e, h2⟩ := h.cells' hs (by omega)
  cases e
  exact h2 j v hj
theorem Mem.ownAt {b off m c : Nat} {l : List Value} (hs : Mem g w L) (i : Nat) (hi : L[i]? = some (own (.slice (some ⟨b, off, none⟩) m c) l)) {j : Nat} {v : Value} (hj : l[j]? = some v) : w.cell? ⟨b, off + j, none⟩ = some v := (Rd.own i hi).cellAt hs hj
/-- A cell of a slice of one's own is written. -/
theorem lw_storeOwn (hs : Mem g w L) (i : Nat) {x y : Operand} {t : TypeId} {b o o' m c j : Nat} {l : List Value} {v : Value} (hi : L[i]? = some (own (.slice (some ⟨b, o, none⟩) m c) l)) (hsz : (P.info? t).map (·.size) = some 1) (hx : ev ρ x = .pointer (some ⟨b, o', none⟩)) (ho : o + j = o') (hj : j < l.length) (hy : ev ρ y = v) (h1 : v.oneCell' = true)
    (h : ∀ w', Mem g w' (L.set i (own (.slice (some ⟨b, o, none⟩) m c) (l.set j v))) → lw P n ops rest K ρ w') : lw P n ops (⟨none, .store t x y, ty, pos, aft, none⟩ :: rest) K ρ w := by
  subst ho
  obtain ⟨F, ⟨g1, g2⟩, g3⟩ := hs.turn hi
  obtain ⟨a', n', c', hv, hn, hc, ha, hr⟩ := g1
  simp only [Value.slice.injEq] at hv
  obtain ⟨rfl, rfl, rfl⟩ := hv
  rcases hr with hr | ⟨b', off, cs, E, he, hb, hz, hcs⟩
  · omega
  · simp only [Option.some.injEq, Addr.mk.injEq] at he
    obtain ⟨rfl, rfl, _⟩ := he
    have hcell : w.cell? ⟨b, o + j, none⟩ = some l[j] := cell_at hb (by rw [hcs j hj, List.getElem?_eq_getElem hj])
    have hfree : w.frozen? ⟨b, o + j, none⟩ = false := free_at hb
    obtain ⟨inf, hinf, hsz⟩ := Option.map_eq_some_iff.1 hsz
    have hst : (storeVar t ⟨b, o + j, none⟩ v).run P w = .ok () (w.setCell ⟨b, o + j, none⟩ v) := by
      cases v <;> first
        | (simp [Value.oneCell'] at h1; done)
        | simp [storeVar, sizeOf, typeInfo, hinf, hsz, Value.cells, storeCells, store, Sem.run, hcell, hfree, Addr.add]
    have hlt := lt_of_block hb
    refine lw_skip rfl (w' := w.setCell ⟨b, o + j, none⟩ v) ?_ (h _ (g3 _ _ F ⟨⟨_, _, _, rfl, by simpa using hn, hc, ⟨ha.1, fun x hx => ?_⟩, .inr ⟨b, o, _, E, rfl, heap_setCell_same hb, by simpa using hz, fun i hi' => ?_⟩⟩, g2⟩ (fun b hb => .inl hb) ((Keeps.refl _ _).setCell _ _ fun _ => (g2 b).2 rfl)))
    · simp [execOp, hx, hy, Instr.storeAt, Instr.sureAddr, hst]
    · have := ha.2 x hx; simpa using this
    · by_cases e : i = j
      · subst e
        rw [Array.getElem?_setIfInBounds_self_of_lt (by omega), List.getElem?_set_self hj]
      · rw [Array.getElem?_setIfInBounds_ne (by omega), List.getElem?_set_ne (by omega)]
        exact hcs i (by simpa using hi')

/-! ### chunks put together -/
def emp : HP where
  ok F _ := ∀ x, ¬ F x
  loc := fun h _ => h
  lt := fun h hb => absurd hb (h _)
def star (A B : HP) : HP where
  ok F w := ∃ F1 F2, A.ok F1 w ∧ B.ok F2 w ∧ (∀ x, F1 x → ¬ F2 x) ∧ ∀ x, F x ↔ F1 x ∨ F2 x
  loc := fun ⟨F1, F2, h1, h2, h3, h4⟩ k => ⟨F1, F2, A.loc h1 fun b hb => k b ((h4 b).2 (.inl hb)), B.loc h2 fun b hb => k b ((h4 b).2 (.inr hb)), h3, h4⟩
  lt := fun ⟨F1, F2, h1, h2, _, h4⟩ hb => ((h4 _).1 hb).elim (A.lt h1) (B.lt h2)
def ex {α : Type} (f : α → HP) : HP where
  ok F w := ∃ a, (f a).ok F w
  loc := fun ⟨a, h⟩ k => ⟨a, (f a).loc h k⟩
  lt := fun ⟨a, h⟩ hb => (f a).lt h hb
/-- A chunk, and something that is so. -/
def also (A : HP) (p : Prop) : HP where
  ok F w := A.ok F w ∧ p
  loc := fun ⟨h, hp⟩ k => ⟨A.loc h k, hp⟩
  lt := fun ⟨h, _⟩ hb => A.lt h hb
def stars : List HP → HP
  | [] => emp
  | C :: L => star C (stars L)
theorem satX.star {w : World} {A B : HP} {X : Nat → Prop} : satX w (star A B :: L) X ↔ satX w (A :: B :: L) X := by
  constructor
  · rintro ⟨F, ⟨F1, F2, h1, h2, h3, h4⟩, h5, h6⟩
    exact ⟨F1, h1, fun b hb => h5 b ((h4 b).2 (.inl hb)), F2, h2, fun b hb hx => hx.elim (h5 b ((h4 b).2 (.inr hb))) (fun h => h3 b h hb), satX.less (fun b hb => hb.elim (fun hb => hb.elim .inl fun h => .inr ((h4 b).2 (.inl h))) fun h => .inr ((h4 b).2 (.inr h))) h6⟩
  · rintro ⟨F1, h1, h5, F2, h2, h3, h6⟩
    exact ⟨fun x => F1 x ∨ F2 x, ⟨F1, F2, h1, h2, fun x ha hb => h3 x hb (.inr ha), fun _ => Iff.rfl⟩, fun b hb => hb.elim (h5 b) fun hb hx => h3 b hb (.inl hx), satX.less (fun b hb => hb.elim (fun h => .inl (.inl h)) fun h => h.elim (fun h => .inl (.inr h)) .inr) h6⟩
theorem satX.stars {w : World} : ∀ {M L : List HP} {X : Nat → Prop}, satX w (stars M :: L) X ↔ satX w (M ++ L) X
  | [], L, X => ⟨fun ⟨F, h1, _, h3⟩ => satX.less (fun _ h => .inl h) h3, fun h => ⟨fun _ => False, fun _ h => h, fun _ h => h.elim, satX.less (fun _ h => h.elim id False.elim) h⟩⟩
  | C :: M, L, X => by
    show satX w (Go.Proofs.YtmnfehbnjgmgjaaDoor.star C (Go.Proofs.YtmnfehbnjgmgjaaDoor.stars M) :: L) X ↔ satX w (C :: (M ++ L)) X
    rw [satX.star]
    constructor
    · rintro ⟨F, h1, h2, h3⟩; exact ⟨F, h1, h2, satX.stars.1 h3⟩
    · rintro ⟨F, h1, h2, h3⟩; exact ⟨F, h1, h2, satX.stars.2 h3⟩
theorem Mem.imp {M L : List HP} (hs : Mem g w L) (h : ∀ X, satX w L X → satX w M X) : Mem g w M := ⟨hs.os, hs.tape, hs.output, hs.size, hs.old, h _ hs.sat⟩
theorem Mem.unstars {M L : List HP} (hs : Mem g w (stars M :: L)) : Mem g w (M ++ L) := hs.imp fun _ => satX.stars.1
theorem Mem.stars {M L : List HP} (hs : Mem g w (M ++ L)) : Mem g w (stars M :: L) := hs.imp fun _ => satX.stars.2
theorem Mem.unex {α : Type} {f : α → HP} (hs : Mem g w (ex f :: L)) : ∃ a, Mem g w (f a :: L) := by
  obtain ⟨h1, h2, h3, h4, h5, F, ⟨a, ha⟩, h6, h7⟩ := hs
  exact ⟨a, h1, h2, h3, h4, h5, F, ha, h6, h7⟩
theorem Mem.ex {α : Type} {f : α → HP} (a : α) (hs : Mem g w (f a :: L)) : Mem g w (ex f :: L) := hs.imp fun _ ⟨F, ha, h⟩ => ⟨F, ⟨a, ha⟩, h⟩
theorem Mem.unalso {A : HP} {p : Prop} (hs : Mem g w (also A p :: L)) : p ∧ Mem g w (A :: L) := by
  obtain ⟨h1, h2, h3, h4, h5, F, ⟨ha, hp⟩, h6, h7⟩ := hs
  exact ⟨hp, h1, h2, h3, h4, h5, F, ha, h6, h7⟩
theorem Mem.also {A : HP} {p : Prop} (hp : p) (hs : Mem g w (A :: L)) : Mem g w (also A p :: L) := hs.imp fun _ ⟨F, ha, h⟩ => ⟨F, ⟨ha, hp⟩, h⟩

/-- Chunks in another order, some left out: those of numbers 'is' (below k), then those from k on. -/
theorem satX.arr {w : World} {k : Nat} : ∀ (is : List Nat) {L : List HP} {X : Nat → Prop}, is.Nodup → (∀ i ∈ is, i < k) → satX w L X → satX w (is.filterMap (fun i => L[i]?) ++ L.drop k) X
  | [], _, _, _, _, h => h.suffix k
  | i :: is, L, X, hn, hk, h => by
    cases hi : L[i]? with
    | none => simp only [List.filterMap_cons, hi]; exact satX.arr is (List.nodup_cons.1 hn).2 (fun j hj => hk j (.tail _ hj)) h
    | some C =>
      obtain ⟨F, h1, h2, h3⟩ := h.get hi
      have hlt : i < L.length := (List.getElem?_eq_some_iff.1 hi).1
      have h4 : satX w (L.set i emp) (fun b => X b ∨ F b) := satX.put (F := fun _ => False) hlt (fun _ h => h) (fun _ h => h.elim) (satX.less (fun b hb => hb.elim id False.elim) h3)
      have h5 := satX.arr is (List.nodup_cons.1 hn).2 (fun j hj => hk j (.tail _ hj)) h4
      have e1 : is.filterMap (fun j => (L.set i emp)[j]?) = is.filterMap (fun j => L[j]?) := by
        have key : ∀ (l : List Nat), i ∉ l → l.filterMap (fun j => (L.set i emp)[j]?) = l.filterMap (fun j => L[j]?) := by
          intro l
          induction l with
          | nil => intro _; rfl
          | cons j l ih =>
            intro hj
            simp only [List.mem_cons, not_or] at hj
            simp only [List.filterMap_cons, List.getElem?_set_ne hj.1, ih hj.2]
        exact key is (List.nodup_cons.1 hn).1
      have e2 : (L.set i emp).drop k = L.drop k := by rw [List.drop_set]; simp [hk i (.head _)]
      rw [e1, e2] at h5
      simp only [List.filterMap_cons, hi]
      exact ⟨F, h1, h2, h5⟩
theorem Mem.arr (hs : Mem g w L) (is : List Nat) (k : Nat) (h : (decide is.Nodup && is.all fun i => decide (i < k)) = true) : Mem g w (is.filterMap (fun i => L[i]?) ++ L.drop k) := by
  simp only [Bool.and_eq_true, decide_eq_true_eq, List.all_eq_true] at h
  exact hs.imp fun _ => satX.arr is h.1 h.2
/-- A chunk of no blocks. -/
theorem Mem.addE {C : HP} (hs : Mem g w L) (hC : C.ok (fun _ => False) w) : Mem g w (C :: L) := hs.imp fun _ h => ⟨_, hC, fun _ h => h.elim, satX.less (fun _ h => h.elim id False.elim) h⟩
theorem own_nil (w : World) : (own (.slice none 0 0) []).ok (fun _ => False) w := ⟨ownV.nil w, fun _ => ⟨fun h => h.elim, fun h => by cases h⟩⟩

/-! ### a family of chunks, one for each key -/
section
variable {κ α β : Type} [DecidableEq κ]
/-- Each key has its chunk, but those of X. -/
def famX (R : α → β → HP) (X : κ → Prop) (l : List (κ × α)) (m : List (κ × β)) : HP where
  ok F w := ∃ G : κ → Nat → Prop, keysOf l = keysOf m ∧ (∀ k a b, ¬ X k → aget l k = some a → aget m k = some b → (R a b).ok (G k) w) ∧ (∀ k k2 x, k ≠ k2 → G k x → ¬ G k2 x) ∧ (∀ k x, G k x → k ∈ keysOf m ∧ ¬ X k) ∧ ∀ x, F x ↔ ∃ k, G k x
  loc := fun ⟨G, h1, h2, h3, h4, h5⟩ k => ⟨G, h1, fun i a b hx ha hb => (R a b).loc (h2 i a b hx ha hb) fun x hx => k x ((h5 x).2 ⟨i, hx⟩), h3, h4, h5⟩
  lt := fun ⟨G, h1, h2, h3, h4, h5⟩ hb => by
    obtain ⟨k, hk⟩ := (h5 _).1 hb
    obtain ⟨hm, hx⟩ := h4 k _ hk
    cases hb : aget m k with
    | none => exact absurd hm ((aget_none_iff _ k).1 hb)
    | some b =>
      cases ha : aget l k with
      | none => exact absurd (h1 ▸ hm) ((aget_none_iff _ k).1 ha)
      | some a => exact (R a b).lt (h2 k a b hx ha hb) hk
abbrev famC (R : α → β → HP) (l : List (κ × α)) (m : List (κ × β)) : HP := famX R (fun _ => False) l m
variable {R : α → β → HP} {X : κ → Prop} {l : List (κ × α)} {m : List (κ × β)} {k : κ} {a : α} {b : β}
theorem famC_nil (w : World) : (famC R ([] : List (κ × α)) ([] : List (κ × β))).ok (fun _ => False) w :=
  ⟨fun _ _ => False, rfl, fun _ _ _ _ h => by simp [aget] at h, fun _ _ _ _ h => h.elim, fun _ _ h => h.elim, fun _ => ⟨fun h => h.elim, fun ⟨_, h⟩ => h⟩⟩
theorem Mem.famKeys (hs : Mem g w L) (i : Nat) (hi : L[i]? = some (famX R X l m)) : keysOf l = keysOf m := by
  obtain ⟨F, G, h1, _⟩ := hs.read hi
  exact h1
theorem fam_some (hk : keysOf l = keysOf m) (hb : aget m k = some b) : ∃ a, aget l k = some a := by
  cases ha : aget l k with
  | some a => exact ⟨a, rfl⟩
  | none =>
    have := (aget_none_iff m k).2 (hk ▸ (aget_none_iff l k).1 ha)
    rw [this] at hb; cases hb
theorem fam_none (hk : keysOf l = keysOf m) (hb : aget m k = none) : aget l k = none := (aget_none_iff l k).2 (hk ▸ (aget_none_iff m k).1 hb)
/-- What is known of one of them. -/
theorem Ens.fam {p : World → Prop} (i : Nat) (hi : L[i]? = some (famC R l m)) (ha : aget l k = some a) (hb : aget m k = some b) (hp : ∀ F w, (R a b).ok F w → p w) : Ens g L p :=
  Ens.of i hi fun _ w ⟨G, _, h2, _⟩ => hp (G k) w (h2 k a b id ha hb)
/-- The chunk of a key is taken out. -/
theorem Mem.famTake (hs : Mem g w L) (i : Nat) (hi : L[i]? = some (famC R l m)) (ha : aget l k = some a) (hb : aget m k = some b) : Mem g w (R a b :: L.set i (famX R (· = k) l m)) := by
  refine hs.imp fun Y hY => ?_
  obtain ⟨F, ⟨G, h1, h2, h3, h4, h5⟩, h6, h7⟩ := hY.get hi
  have hlt : i < L.length := (List.getElem?_eq_some_iff.1 hi).1
  refine ⟨G k, h2 k a b id ha hb, fun x hx => h6 x ((h5 x).2 ⟨k, hx⟩), ?_⟩
  refine satX.put (F := fun x => ∃ j, j ≠ k ∧ G j x) hlt ⟨fun j x => j ≠ k ∧ G j x, h1, fun j a b hj ha hb => ?_, fun j j2 x hne ⟨_, p⟩ ⟨_, q⟩ => h3 j j2 x hne p q, fun j x ⟨p, q⟩ => ⟨(h4 j x q).1, p⟩, fun _ => Iff.rfl⟩ ?_ ?_
  · have := h2 j a b id ha hb
    have e : (fun x => j ≠ k ∧ G j x) = G j := funext fun x => propext ⟨fun h => h.2, fun h => ⟨hj, h⟩⟩
    show (R a b).ok (fun x => j ≠ k ∧ G j x) w
    rw [e]; exact this
  · rintro x ⟨j, hj, hx⟩ hy
    exact hy.elim (h6 x ((h5 x).2 ⟨j, hx⟩)) (h3 j k x hj hx)
  · refine satX.less ?_ h7
    rintro x ((hx | hx) | ⟨j, _, hx⟩)
    · exact .inl hx
    · exact .inr ((h5 x).2 ⟨k, hx⟩)
    · exact .inr ((h5 x).2 ⟨j, hx⟩)
/-- A chunk is laid under a key. -/
theorem Mem.famPut (hs : Mem g w (R a b :: L)) (i : Nat) (hi : L[i]? = some (famX R X l m)) (hX : ∀ j, X j → j = k) : Mem g w (L.set i (famC R (aput l k a) (aput m k b))) := by
  refine hs.imp fun Y hY => ?_
  obtain ⟨F1, e1, e2, e3⟩ := hY
  obtain ⟨F, ⟨G, h1, h2, h3, h4, h5⟩, h6, h7⟩ := e3.get hi
  have hlt : i < L.length := (List.getElem?_eq_some_iff.1 hi).1
  have hdis : ∀ x, F1 x → ¬ F x := fun x h1 h2 => h6 x h2 (.inr h1)
  have hkeys : keysOf (aput l k a) = keysOf (aput m k b) := by rw [keys_put, keys_put, h1]
  refine satX.put (F := fun x => ∃ j, (if j = k then F1 x else G j x)) hlt ⟨fun j x => if j = k then F1 x else G j x, hkeys, fun j a' b' _ ha hb => ?_, fun j j2 x hne p q => ?_, fun j x p => ?_, fun _ => Iff.rfl⟩ ?_ ?_
  · by_cases e : j = k
    · subst e
      rw [aget_put_same] at ha hb
      cases ha; cases hb
      simpa using e1
    · rw [aget_put_other _ _ e] at ha hb
      have := h2 j a' b' (fun h => e (hX j h)) ha hb
      simpa [e] using this
  · simp only at p q
    by_cases e : j = k
    · by_cases e' : j2 = k
      · exact hne (e.trans e'.symm)
      · rw [if_pos e] at p
        rw [if_neg e'] at q
        exact hdis x p ((h5 x).2 ⟨j2, q⟩)
    · rw [if_neg e] at p
      by_cases e' : j2 = k
      · rw [if_pos e'] at q
        exact hdis x q ((h5 x).2 ⟨j, p⟩)
      · rw [if_neg e'] at q
        exact h3 j j2 x hne p q
  · refine ⟨?_, id⟩
    rw [keys_put]
    by_cases e : j = k
    · subst e; split <;> simp_all
    · simp only [e, if_false] at p
      have := (h4 j x p).1
      split
      · exact this
      · exact List.mem_append.2 (.inl this)
  · rintro x ⟨j, hx⟩ hy
    by_cases e : j = k
    · rw [if_pos e] at hx; exact e2 x hx hy
    · rw [if_neg e] at hx; exact h6 x ((h5 x).2 ⟨j, hx⟩) (.inl hy)
  · refine satX.less ?_ h7
    rintro x (hx | ⟨j, hx⟩)
    · exact .inl (.inl hx)
    · by_cases e : j = k
      · rw [if_pos e] at hx; exact .inl (.inr hx)
      · rw [if_neg e] at hx; exact .inr ((h5 x).2 ⟨j, hx⟩)
/-- A key goes, with its chunk. -/
theorem Mem.famDel (hs : Mem g w L) (i : Nat) (hi : L[i]? = some (famX R X l m)) (hn : (keysOf l).Nodup) (hX : ∀ j, X j → j = k) : Mem g w (L.set i (famC R (adel l k) (adel m k))) := by
  refine hs.imp fun Y hY => ?_
  obtain ⟨F, ⟨G, h1, h2, h3, h4, h5⟩, h6, h7⟩ := hY.get hi
  have hlt : i < L.length := (List.getElem?_eq_some_iff.1 hi).1
  have hn' : (keysOf m).Nodup := h1 ▸ hn
  refine satX.put (F := fun x => ∃ j, j ≠ k ∧ G j x) hlt ⟨fun j x => j ≠ k ∧ G j x, by rw [keys_del hn, keys_del hn', h1], fun j a b _ ha hb => ?_, fun j j2 x hne ⟨_, p⟩ ⟨_, q⟩ => h3 j j2 x hne p q, fun j x ⟨p, q⟩ => ⟨?_, id⟩, fun _ => Iff.rfl⟩ ?_ ?_
  · have hj : j ≠ k := fun e => by subst e; rw [aget_del_same hn] at ha; cases ha
    rw [aget_del_other _ hj] at ha hb
    have := h2 j a b (fun h => hj (hX j h)) ha hb
    have e : (fun x => j ≠ k ∧ G j x) = G j := funext fun x => propext ⟨fun h => h.2, fun h => ⟨hj, h⟩⟩
    show (R a b).ok (fun x => j ≠ k ∧ G j x) w
    rw [e]; exact this
  · rw [keys_del hn']
    exact List.mem_filter.2 ⟨(h4 j x q).1, by simpa using p⟩
  · rintro x ⟨j, hj, hx⟩ hy
    exact h6 x ((h5 x).2 ⟨j, hx⟩) hy
  · refine satX.less ?_ h7
    rintro x (hx | ⟨j, _, hx⟩)
    · exact .inl hx
    · exact .inr ((h5 x).2 ⟨j, hx⟩)
end
end Go.Proofs.YtmnfehbnjgmgjaaDoor
