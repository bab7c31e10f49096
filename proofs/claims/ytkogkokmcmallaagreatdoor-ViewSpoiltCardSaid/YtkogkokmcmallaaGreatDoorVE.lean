/- An entry of another manifest: the plain laws; a cell of a row is written. -/
import Derived.Test.YtkogkokmcmallaaGreatDoorVD
import Derived.Test.YtkogkokmcmallaaGreatDoorLV
namespace Go.Proofs.YtkogkokmcmallaaGreatDoor
set_option linter.all false
open Go.RowKit
variable {g w : World} {L M : List HP} {ad : Nat → Addr} {p : Nat} {V : Vw}

/-! ### a bit is turned -/
theorem wrap64_of (n : Int) : (IntKind.i64.wrap n - n) % 18446744073709551616 = 0 := by
  simp [IntKind.wrap, IntKind.bits, IntKind.signed]
  split <;> omega
theorem xor1_ne (a : Int) : bits .xor .i64 a 1 ≠ a := by
  intro h
  have h1 : IntKind.i64.wrap ((BitVec.ofInt 64 a ^^^ BitVec.ofInt 64 1).toNat : Int) = a := h
  have h2 := wrap64_of ((BitVec.ofInt 64 a ^^^ BitVec.ofInt 64 1).toNat : Int)
  rw [h1] at h2
  have h3 : BitVec.ofInt 64 a = BitVec.ofInt 64 a ^^^ BitVec.ofInt 64 1 := by
    apply BitVec.eq_of_toNat_eq
    have h4 := (BitVec.ofInt 64 a ^^^ BitVec.ofInt 64 1).isLt
    have h5 : (BitVec.ofInt 64 a).toNat = (a % 18446744073709551616).toNat := BitVec.toNat_ofInt ..
    rw [h5]
    omega
  have h6 : BitVec.ofInt 64 a ^^^ BitVec.ofInt 64 a = BitVec.ofInt 64 a ^^^ (BitVec.ofInt 64 a ^^^ BitVec.ofInt 64 1) := congrArg _ h3
  rw [← BitVec.xor_assoc, BitVec.xor_self, BitVec.zero_xor] at h6
  revert h6; decide
theorem u32_nat (a : Nat) (ha : a < 4294967296) : (BitVec.ofInt 32 (a : Int)).toNat = a := by
  rw [BitVec.ofInt_natCast, BitVec.toNat_ofNat]; exact Nat.mod_eq_of_lt (by omega)
theorem xor_u32 (a b : Nat) (ha : a < 4294967296) (hb : b < 4294967296) : bits .xor .u32 (a : Int) (b : Int) = ((a ^^^ b : Nat) : Int) := by
  have hx : a ^^^ b < 2 ^ 32 := Nat.xor_lt_two_pow (by omega) (by omega)
  show IntKind.u32.wrap ((BitVec.ofInt 32 (a : Int) ^^^ BitVec.ofInt 32 (b : Int)).toNat : Int) = _
  rw [BitVec.toNat_xor, u32_nat a ha, u32_nat b hb]
  simp [IntKind.wrap, IntKind.bits, IntKind.signed]
  omega
theorem xor5_ne (a : Nat) : a ^^^ 5 ≠ a := fun h => by
  have h1 : a ^^^ (a ^^^ 5) = a ^^^ a := congrArg _ h
  rw [← Nat.xor_assoc, Nat.xor_self, Nat.zero_xor] at h1
  cases h1

/-! ### the law -/
theorem other_first {m : Mf} (h : (Vw.apply [] 1 m).1.1 = 0) : mfF m = (0, none) ∧ Vw.apply [] 1 m = ((0, none), [(m.id, ⟨1, m⟩)]) := by
  unfold Vw.apply at h ⊢
  split
  · rename_i h1; rw [if_pos h1] at h; exact absurd h h1
  · rename_i h1
    have h1 : (mfF m).1 = 0 := by simpa using h1
    refine ⟨flt0 (mfF_ok m) h1, ?_⟩
    simp [Vw.state, aget, nextB, aput]
theorem other_next {m : Mf} {k : Int} (hk : k = 2 ∨ k = 3) : nextB (Vw.state [(m.id, ⟨1, m⟩)] m.id) k = true := by
  rcases hk with rfl | rfl <;> simp [Vw.state, aget, nextB]
/-- Another manifest is refused, and nothing turns. -/
theorem other_bad {m c : Mf} {k : Int} (hk : k = 2 ∨ k = 3) (hid : c.id = m.id) (hne : m ≠ c) : ∃ f : Flt, f.1 ≠ 0 ∧ (f.2 = none ∨ f.1 ≠ 0) ∧ Vw.apply [(m.id, ⟨1, m⟩)] k c = (f, [(m.id, ⟨1, m⟩)]) := by
  by_cases h0 : (mfF c).1 = 0
  · refine ⟨(103, none), by decide, .inl rfl, ?_⟩
    rw [Vw.apply_old h0 (by rcases hk with rfl | rfl <;> omega) (by rw [hid]; exact other_next hk) (i := ⟨1, m⟩) (by rw [hid]; simp [aget]), if_neg hne]
  · exact ⟨mfF c, h0, .inr h0, Vw.apply_bad h0⟩
theorem other_good {m : Mf} {k : Int} (hk : k = 2 ∨ k = 3) (h0 : mfF m = (0, none)) : Vw.apply [(m.id, ⟨1, m⟩)] k m = ((0, none), aput [(m.id, (⟨1, m⟩ : Itm))] m.id ⟨k, m⟩) := by
  rw [Vw.apply_old (by rw [h0]) (by rcases hk with rfl | rfl <;> omega) (other_next hk) (i := ⟨1, m⟩) (by simp [aget]), if_pos rfl]
section
variable {P : Program} {n : Nat} {ops : Array Oper} {rest : List Oper} {K : Env → World → Prop} {ρ : Env} {dst : Option Tmp} {ty : TypeId} {pos : String} {aft : Array Edge}
theorem flat_set {k : Nat} : ∀ {rows : List (List Value)} {r : List Value} {j : Nat} {v : Value}, (∀ r ∈ rows, r.length = k) → ∀ {q : Nat}, rows[q]? = some r → j < k → (rows.set q (r.set j v)).flatten = rows.flatten.set (q * k + j) v
  | [], _, _, _, _, _, h, _ => by simp at h
  | x :: rows, r, j, v, hl, 0, h, hj => by
    simp only [List.getElem?_cons_zero, Option.some.injEq] at h
    subst h
    have := hl x (List.mem_cons_self ..)
    simp only [List.set_cons_zero, List.flatten_cons, Nat.zero_mul, Nat.zero_add]
    rw [List.set_append_left _ _ (by omega)]
  | x :: rows, r, j, v, hl, q + 1, h, hj => by
    have hx := hl x (List.mem_cons_self ..)
    simp only [List.getElem?_cons_succ] at h
    have ih := flat_set (v := v) (fun y hy => hl y (List.mem_cons_of_mem _ hy)) h hj
    simp only [List.set_cons_succ, List.flatten_cons, ih]
    rw [List.set_append_right _ _ (by rw [Nat.succ_mul]; omega)]
    congr 2
    rw [hx, Nat.succ_mul]; omega
/-- A cell of a row of one's own is written. -/
theorem lw_storeK (hs : Mem g w L) (i : Nat) {x y : Operand} {t : TypeId} {b o o' m c k q j : Nat} {rows : List (List Value)} {r : List Value} {v : Value} (hi : L[i]? = some (rowK k (.slice (some ⟨b, o, none⟩) m c) rows)) (hsz : (P.info? t).map (·.size) = some 1) (hx : ev ρ x = .pointer (some ⟨b, o', none⟩)) (hq : rows[q]? = some r) (hj : j < k) (ho : o + (q * k + j) = o') (hy : ev ρ y = v) (h1 : v.oneCell' = true)
    (h : ∀ w', Mem g w' (L.set i (rowK k (.slice (some ⟨b, o, none⟩) m c) (rows.set q (r.set j v)))) → lw P n ops rest K ρ w') : lw P n ops (⟨none, .store t x y, ty, pos, aft, none⟩ :: rest) K ρ w := by
  subst ho
  obtain ⟨F, ⟨g1, g2⟩, g3⟩ := hs.turn hi
  obtain ⟨a', n', c', hv, hn, hc, ha, hrw, hr⟩ := g1
  simp only [Value.slice.injEq] at hv
  obtain ⟨rfl, rfl, rfl⟩ := hv
  have hlen : ∀ r ∈ rows, r.length = k := fun r hr => (hrw r hr).1
  have hqlt : q < rows.length := (List.getElem?_eq_some_iff.1 hq).1
  have hrk : r.length = k := hlen r (List.mem_of_getElem? hq)
  have hle : (q + 1) * k ≤ rows.length * k := Nat.mul_le_mul_right _ hqlt
  have hq1 : (q + 1) * k = q * k + k := Nat.succ_mul _ _
  have hfl : rows.flatten.length = rows.length * k := by
    have := flat_len hrw
    exact this
  have hmk : m * k = rows.length * k := by rw [hn]
  have hck : m * k ≤ c * k := Nat.mul_le_mul_right _ hc
  rcases hr with hr | ⟨b', off, cs, E, he, hb, hz, hcs⟩
  · omega
  · simp only [Option.some.injEq, Addr.mk.injEq] at he
    obtain ⟨rfl, rfl, _⟩ := he
    have hcell : ∃ u, w.cell? ⟨b, o + (q * k + j), none⟩ = some u := ⟨rows.flatten[q * k + j]'(by omega), cell_at hb (by rw [hcs _ (by omega), List.getElem?_eq_getElem (by omega)])⟩
    obtain ⟨u, hcell⟩ := hcell
    have hfree : w.frozen? ⟨b, o + (q * k + j), none⟩ = false := free_at hb
    obtain ⟨inf, hinf, hsz⟩ := Option.map_eq_some_iff.1 hsz
    have hst : (storeVar t ⟨b, o + (q * k + j), none⟩ v).run P w = .ok () (w.setCell ⟨b, o + (q * k + j), none⟩ v) := by
      cases v <;> first
        | (simp [Value.oneCell'] at h1; done)
        | simp [storeVar, sizeOf, typeInfo, hinf, hsz, Value.cells, storeCells, store, Sem.run, hcell, hfree, Addr.add]
    have hlt := lt_of_block hb
    refine lw_skip rfl (w' := w.setCell ⟨b, o + (q * k + j), none⟩ v) ?_ (h _ (g3 _ _ F ⟨⟨_, _, _, rfl, by simpa using hn, hc, ⟨ha.1, fun x hx => ?_⟩, fun y hy => ?_, .inr ⟨b, o, _, E, rfl, heap_setCell_same hb, by simpa using hz, fun i hi' => ?_⟩⟩, g2⟩ (fun b hb => .inl hb) ((Keeps.refl _ _).setCell _ _ fun _ => (g2 b).2 rfl)))
    · simp [execOp, hx, hy, Instr.storeAt, Instr.sureAddr, hst]
    · have := ha.2 x hx; simpa using this
    · rcases List.mem_or_eq_of_mem_set hy with hy | rfl
      · exact hrw y hy
      · refine ⟨by rw [List.length_set]; exact hrk, fun z hz => ?_⟩
        rcases List.mem_or_eq_of_mem_set hz with hz | rfl
        · exact (hrw r (List.mem_of_getElem? hq)).2 z hz
        · exact h1
    · rw [flat_set hlen hq hj]
      by_cases e : i = q * k + j
      · subst e
        rw [Array.getElem?_setIfInBounds_self_of_lt (by omega), List.getElem?_set_self (by omega)]
      · rw [Array.getElem?_setIfInBounds_ne (by omega), List.getElem?_set_ne (by omega)]
        exact hcs i hi'
end
end Go.Proofs.YtkogkokmcmallaaGreatDoor
