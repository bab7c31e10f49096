/- Slices of slices, of structs, that came in. -/
import Derived.Test.YtkogkokmcmallaaDoorKr
import Derived.Test.YtkogkokmcmallaaDoorG
import Derived.Test.YtkogkokmcmallaaDoorLaid
import Derived.Deep.Slices
namespace Go.Proofs.YtkogkokmcmallaaDoor
set_option linter.all false
open Go.RowKit
attribute [local irreducible] errV
variable {g w : World} {L M : List HP} {ad : Nat → Addr}

/-- It reads so in every world that has what lies in the ground. -/
def Came0 (g : World) (v : Value) (l : List Value) : Prop := ∀ w' : World, (∀ b, b < g.heap.size → w'.heap[b]? = g.heap[b]?) → seqV w' v l
theorem Came0.seq {v : Value} {l : List Value} (h : Came0 g v l) (hs : Mem g w L) : seqV w v l := h w hs.old
theorem Came.zero {v : Value} {l : List Value} (h : Came g v l) : Came0 g v l := fun w' k => h.1.heap fun b hb => k b (h.2 b hb)
theorem Came0.rd {v : Value} {l : List Value} (h : Came0 g v l) (L : List HP) : Rd g L v l := fun w hs => h w hs.old
/-! ### slices of slices of bytes -/
/-- An element: where it lies, its room, its bytes. -/
abbrev El := Option Addr × Nat × List UInt8
def elV (x : El) : Value := .slice x.1 x.2.2.length x.2.1
structure Rows2 (g : World) (v : Value) (z : List El) : Prop where
  came : Came g v (z.map elV)
  each : ∀ x ∈ z, Came0 g (elV x) (bytesL x.2.2)
theorem elV_at {z : List El} {k : Nat} {x : El} (h : z[k]? = some x) : (z.map elV)[k]? = some (.slice x.1 x.2.2.length x.2.1) := by simp [h, elV]
/-- As the row's reader tells them. -/
def RowsW (w : World) (v : Value) (z : List El) : Prop := seqV w v (z.map elV) ∧ ∀ x ∈ z, Came0 w (elV x) (bytesL x.2.2)
theorem RowsW.rows {a : Option Addr} {n c : Nat} {z : List El} (h : RowsW w (.slice a n c) z) (hb : ∀ b, blk (.slice a n c) = some b → b < w.heap.size) : Rows2 w (.slice a n c) z ∧ n = z.length := ⟨⟨⟨h.1, hb⟩, h.2⟩, by have := h.1.len; simpa using this.symm⟩
theorem rows_of_cells {W : World} {base : Nat} {x : Addr} {l c : Nat} {A : Nat → Option Addr} {L C : Nat → Nat} {Z : Nat → List Int} (hl : l ≤ c)
    (h : ∀ r, r < c → W.cell? (x.add r) = some (.slice (A r) (L r) (C r)) ∧ L r ≤ C r ∧ C r ≤ maxLen ∧ (Z r).length = C r ∧ (∀ n ∈ Z r, (Lit.int .u8 n).wf = true) ∧ (A r = none → C r = 0) ∧ ∀ a', A r = some a' → base ≤ a'.block ∧ ∀ i, i < C r → W.cell? (a'.add i) = some (.int .u8 ((Z r).getD i 0))) :
    ∃ z : List El, RowsW W (.slice (some x) l c) z := by
  let el : Nat → El := fun r => (A r, C r, ((Z r).take (L r)).map fun z => UInt8.ofNat z.toNat)
  have hel : ∀ r, r < c → elV (el r) = .slice (A r) (L r) (C r) := fun r hr => by
    obtain ⟨_, h1, _, h2, _⟩ := h r hr
    show Value.slice (A r) (((Z r).take (L r)).map fun z => UInt8.ofNat z.toNat).length (C r) = _
    rw [List.length_map, List.length_take, h2, Nat.min_eq_left h1]
  refine ⟨(List.range l).map el, ?_, fun y hy => ?_⟩
  · have := seq_of_cells (W := W) (x := x) (f := fun i => elV (el i)) hl (fun i hi => by rw [hel i hi]; exact (h i hi).1)
    simpa [List.map_map, Function.comp_def] using this
  · obtain ⟨r, hr, rfl⟩ := List.mem_map.1 hy
    have hrl : r < l := by simpa using hr
    obtain ⟨e1, e2, e3, e4, e5, e6, e7⟩ := h r (by omega)
    rw [hel r (by omega)]
    intro W' hW
    have hlen : (((Z r).take (L r)).map fun z => UInt8.ofNat z.toNat).length = L r := by rw [List.length_map, List.length_take, e4, Nat.min_eq_left e2]
    rcases Nat.eq_zero_or_pos (C r) with h0 | h0
    · have hz : ((Z r).take (L r)).map (fun z => UInt8.ofNat z.toNat) = [] := List.eq_nil_of_length_eq_zero (by rw [hlen]; omega)
      show seqV W' _ (bytesL (((Z r).take (L r)).map fun z => UInt8.ofNat z.toNat))
      rw [hz, show L r = 0 by omega, h0]
      exact ⟨_, 0, 0, rfl, rfl, Nat.le_refl _, fun _ => rfl, .inl rfl⟩
    · cases ha : A r with
      | none => rw [e6 ha] at h0; omega
      | some a' =>
        obtain ⟨_, e8⟩ := e7 a' ha
        have hi : IsRow .u8 W (some a') (L r) (C r) (Z r) := .inr ⟨a', rfl, e2, e3, e4, fun i hi => e8 i (by omega), e5⟩
        refine hi.bytes.heap fun b hb => hW b ?_
        simp only [blk, Option.some.injEq] at hb
        subst hb
        have hc := e8 0 h0
        have := World.block_lt_of_cell? W _ hc
        have hbk : (a'.add 0).block = a'.block := by unfold Addr.add; split <;> rfl
        rwa [hbk] at this

/-! ### slices of structs that came in -/
theorem choose_rows {α : Type} {len : Nat} {p : Nat → α → Prop} (h : ∀ i, i < len → ∃ z, p i z) : ∃ zs : List α, zs.length = len ∧ ∀ i z, zs[i]? = some z → p i z := by
  induction len with
  | zero => exact ⟨[], rfl, fun i z hz => by simp at hz⟩
  | succ n ih =>
    obtain ⟨zs, h1, h2⟩ := ih fun i hi => h i (by omega)
    obtain ⟨z, hz⟩ := h n (by omega)
    refine ⟨zs ++ [z], by simp [h1], fun i y hy => ?_⟩
    by_cases hi : i < zs.length
    · rw [List.getElem?_append_left hi] at hy; exact h2 i y hy
    · rw [List.getElem?_append_right (by omega)] at hy
      have : i = n := by
        have := (List.getElem?_eq_some_iff.1 hy).1
        simp at this; omega
      subst this
      rw [h1, Nat.sub_self] at hy
      simp at hy
      subst hy
      exact hz
open Go.Deep in
/-- A slice of structs, opened: each row by what its fields are. -/
theorem open_structs {H : Type} {enc : TypeId × Value → H} {P : Program} {w : World} {base : Nat} {spare : Nat → Bool} {held : Bool} {t e : TypeId} {fs : Array Field} {k : Nat} {α : Type} (en : α → List Value) (good : α → Prop) {fuel : Nat} {a : Option Addr} {n c : Nat} {x : DataW H × List MemPlace}
    (ht : P.underlying t = some (.slice e)) (he : P.underlying e = some (.struct fs)) (hk : P.cellsOf e = k) (hk0 : 0 < k)
    (hrow : ∀ (row : List Value) (m : Nat), row.length = k → (∀ (i : Nat) (f : Field), fs[i]? = some f → ∃ y, DataW.trod enc P w base spare held m f.type ((row.drop f.offset).take (P.cellsOf f.type)) = some y) → ∃ z, row = en z ∧ good z)
    (h : DataW.trod enc P w base spare held fuel t [.slice a n c] = some x) : ∃ zs : List α, RowsR w k (.slice a n c) (zs.map en) ∧ ∀ z ∈ zs, good z := by
  rcases open_slice ht h with ⟨h0, _⟩ | ⟨a', len, cap, m, n', D, Pl, hcs, hb, hl, hm, hmm, rfl, hx⟩
  · simp only [List.cons.injEq, Value.slice.injEq, and_true] at h0
    obtain ⟨rfl, rfl, rfl⟩ := h0
    exact ⟨[], ⟨none, 0, 0, rfl, rfl, Nat.le_refl _, .inl rfl⟩, fun z hz => by simp at hz⟩
  · simp only [List.cons.injEq, Value.slice.injEq, and_true] at hcs
    obtain ⟨rfl, rfl, rfl⟩ := hcs
    have hlm : n ≤ m := by rw [hmm]; split <;> omega
    have each : ∀ i, i < n → ∃ z, (∀ j v, (en z)[j]? = some v → w.cell? (a'.add (i * k + j)) = some v) ∧ (en z).length = k ∧ good z := fun i hi => by
      obtain ⟨row, h1, h2⟩ := hx i (by omega)
      rw [hk] at h1
      obtain ⟨_, hlen, hcell⟩ := World.cells?_some h1
      obtain ⟨xs, q, hq, hxy, _, hxl, hf⟩ := DataW.trod_struct he h2
      obtain ⟨z, rfl, hz⟩ := hrow row q hlen fun i f hfi => by
        have hi2 : i < xs.length := by rw [hxl]; exact (Array.getElem?_eq_some_iff.1 hfi).1
        exact ⟨xs[i], by rw [hf i f hfi, List.getElem?_eq_getElem hi2]⟩
      refine ⟨z, fun j v hj => ?_, hlen, hz⟩
      have hjl := (List.getElem?_eq_some_iff.1 hj).1
      rw [← add_add, hcell j (by omega)]
      exact hj
    obtain ⟨zs, hz1, hz2⟩ := choose_rows each
    refine ⟨zs, ⟨some a', n, c, rfl, by simp [hz1], hl, ?_⟩, fun z hz => ?_⟩
    · rcases Nat.eq_zero_or_pos n with h0 | h0
      · left
        have : zs = [] := List.eq_nil_of_length_eq_zero (by omega)
        rw [this]; rfl
      · right
        obtain ⟨z0, hz0⟩ : ∃ z, zs[0]? = some z := ⟨_, List.getElem?_eq_getElem (by omega)⟩
        obtain ⟨e1, e2, _⟩ := hz2 0 z0 hz0
        obtain ⟨v0, hv0⟩ : ∃ v, (en z0)[0]? = some v := ⟨_, List.getElem?_eq_getElem (by omega)⟩
        have hc := e1 0 v0 hv0
        obtain ⟨b, off, sp⟩ := a'
        have hsp : sp = none := by
          cases sp with
          | none => rfl
          | some s =>
            simp only [World.cell?, Addr.add, Nat.zero_mul, Nat.add_zero, if_true] at hc
            split at hc
            · simp at hc
            · cases hc
        subst hsp
        have hbl := World.block_lt_of_cell? w _ hc
        have hbk : ((⟨b, off, none⟩ : Addr).add (0 * k + 0)).block = b := by unfold Addr.add; split <;> rfl
        rw [hbk] at hbl
        refine ⟨b, off, rfl, hbl, fun q row hq j v hj => ?_⟩
        rw [List.getElem?_map] at hq
        obtain ⟨z, hzq, rfl⟩ := Option.map_eq_some_iff.1 hq
        have := (hz2 q z hzq).1 j v hj
        rw [Addr.add_lit] at this
        rw [Nat.add_assoc]
        exact this
    · obtain ⟨i, hi⟩ := List.getElem?_of_mem hz
      exact (hz2 i z hi).2.2
end Go.Proofs.YtkogkokmcmallaaDoor
