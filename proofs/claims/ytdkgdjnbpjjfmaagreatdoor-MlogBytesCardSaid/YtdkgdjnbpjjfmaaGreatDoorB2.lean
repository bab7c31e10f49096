/- vint.Get, GetInt; the reader of numbers. Numbers as bytes and back, in plain words. Slices of structs: many rows appended; rows that can be read. Manifests: the plain model. max. The reader, where nothing is amiss. The reader on any bytes: numbers within bounds, bytes. An error, bare or with a place, as a value and a chunk; the chunks of a view. Manifests: the leaves: pairs, objects, copies, equality. Manifests: objects, equality, what is amiss. Manifests: what is amiss with one. SameInts, SameTexts. -/
import Derived.Test.YtdkgdjnbpjjfmaaGreatDoorB1
import Derived.Laws.StructEq
namespace Go.Proofs.YtdkgdjnbpjjfmaaGreatDoor
set_option linter.all false
open Go.RowKit
attribute [local irreducible] zAq
variable {g w : World} {L M : List HP} {ad : Nat → Addr}

/-! ### numbers out of bytes, in plain words -/
/-- The error's number, the number, how many bytes. -/
def vgetF : Nat → Nat → Nat → List UInt8 → Nat × Nat × Nat
  | 0, _, _, _ => (103, 0, 0)
  | f + 1, i, n, b => match b[i]? with
    | none => (101, 0, 0)
    | some c => if i = 9 ∧ 1 < c.toNat then (103, 0, 0) else if 128 ≤ c.toNat then vgetF f (i + 1) (n + c.toNat % 128 * 2 ^ (7 * i)) b else if 0 < i ∧ c.toNat = 0 then (103, 0, 0) else (0, n + c.toNat % 128 * 2 ^ (7 * i), i + 1)
def vget (b : List UInt8) : Nat × Nat × Nat := vgetF 10 0 0 b
theorem zEz {b : List UInt8} {f i n : Nat} {c : UInt8} (h : b[i]? = some c) : vgetF (f + 1) i n b = if i = 9 ∧ 1 < c.toNat then (103, 0, 0) else if 128 ≤ c.toNat then vgetF f (i + 1) (n + c.toNat % 128 * 2 ^ (7 * i)) b else if 0 < i ∧ c.toNat = 0 then (103, 0, 0) else (0, n + c.toNat % 128 * 2 ^ (7 * i), i + 1) := by
  conv => lhs; unfold vgetF
  rw [h]
theorem vgetF_none {b : List UInt8} {f i n : Nat} (h : b[i]? = none) : vgetF (f + 1) i n b = (101, 0, 0) := by
  conv => lhs; unfold vgetF
  rw [h]
/-- A number with a sign, out of one without. -/
def zag (n : Nat) : Int := if n % 2 = 0 then ((n / 2 : Nat) : Int) else -((n / 2 : Nat) : Int) - 1
theorem or_u64 (a b : Nat) (ha : a < 18446744073709551616) (hb : b < 18446744073709551616) : bits .or .u64 (a : Int) (b : Int) = ((a ||| b : Nat) : Int) := by
  have hx : a ||| b < 2 ^ 64 := Nat.or_lt_two_pow (by omega) (by omega)
  show IntKind.u64.wrap ((BitVec.ofInt 64 (a : Int) ||| BitVec.ofInt 64 (b : Int)).toNat : Int) = _
  rw [BitVec.toNat_or, u64_nat a ha, u64_nat b hb, zB]
  omega
theorem and_u64 (a b : Nat) (ha : a < 18446744073709551616) (hb : b < 18446744073709551616) : bits .and .u64 (a : Int) (b : Int) = ((a &&& b : Nat) : Int) := by
  have hx : a &&& b ≤ a := Nat.and_le_left
  show IntKind.u64.wrap ((BitVec.ofInt 64 (a : Int) &&& BitVec.ofInt 64 (b : Int)).toNat : Int) = _
  rw [BitVec.toNat_and, u64_nat a ha, u64_nat b hb, zB]
  omega
theorem or_add {n c i : Nat} (hn : n < 2 ^ i) : n ||| (c * 2 ^ i) = n + c * 2 ^ i := by
  rw [← Nat.shiftLeft_eq, Nat.or_comm, ← Nat.shiftLeft_add_eq_or_of_lt hn, Nat.add_comm]
theorem low7b (c : UInt8) : bits .and .u8 ((c.toNat : Nat) : Int) 127 = ((c.toNat % 128 : Nat) : Int) := by
  have h : ∀ m : Nat, m < 256 → bits .and .u8 (m : Int) 127 = ((m % 128 : Nat) : Int) := by decide +kernel
  exact h c.toNat (UInt8.toNat_lt c)
/-- One group of seven bits is laid in. -/
theorem seven_in {n i : Nat} {c : UInt8} (hn : n < 2 ^ (7 * i)) (hi : i ≤ 9) (hc : i = 9 → c.toNat ≤ 1) : n + c.toNat % 128 * 2 ^ (7 * i) < 18446744073709551616 ∧ c.toNat % 128 * 2 ^ (7 * i) < 18446744073709551616 ∧ n + c.toNat % 128 * 2 ^ (7 * i) < 2 ^ (7 * (i + 1)) := by
  have h7 : 2 ^ (7 * (i + 1)) = 128 * 2 ^ (7 * i) := by rw [Nat.mul_add, Nat.pow_add]; omega
  have hm : c.toNat % 128 ≤ 127 := by omega
  have hle : c.toNat % 128 * 2 ^ (7 * i) ≤ 127 * 2 ^ (7 * i) := Nat.mul_le_mul_right _ hm
  rcases Nat.lt_or_ge i 9 with h | h
  · have : 2 ^ (7 * i) ≤ 2 ^ 56 := Nat.pow_le_pow_right (by decide) (by omega)
    refine ⟨by omega, by omega, by omega⟩
  · have e : i = 9 := by omega
    subst e; have h1 := hc rfl
    have h2 : c.toNat % 128 ≤ 1 := by omega
    have h3 : c.toNat % 128 * 2 ^ 63 ≤ 1 * 2 ^ 63 := Nat.mul_le_mul_right _ h2; have e1 : 2 ^ (7 * 9) = 2 ^ 63 := rfl; rw [e1] at *; refine ⟨by omega, by omega, by omega⟩
/-- The codes of numbers. -/
def vintCodes : List Nat := [101, 103, 104, 105]
abbrev ErrW (ad : Nat → Addr) (g : World) : Prop := Errs vintCodes ad g.heap.size g
theorem Errs.sub {A C : List Nat} {ad : Nat → Addr} {B : Nat} {w : World} (h : Errs A ad B w) (hs : ∀ c ∈ C, c ∈ A) : Errs C ad B w :=
  ⟨fun c hc => h.pos c (hs c hc), fun c hc => h.cell c (hs c hc), fun c hc => h.block c (hs c hc), fun c hc d hd => h.inj c (hs c hc) d (hs d hd), fun c hc => h.lt c (hs c hc)⟩
theorem vget_sl (hE : ErrW ad g) (hs : Mem g w L) {a : Option Addr} {m c : Nat} {b : List UInt8} (hr : Rd g L (.slice a m c) (zAm b)) (hm : m = b.length) (hlen : b.length ≤ 1073741824) {k n q : Nat} (hk : vget b = (k, n, q)) :
    Calls Tryz.prog 109 #[.slice a m c] w (Ret fun v w' => v = .tuple #[.int .u64 n, .int .i64 q, zAq ad k] ∧ Mem g w' L) := by
  subst hm; refine zAo Tryz.func109 rfl rfl ?_
  skip
  refine zA6 (zA1 ?_); refine zA rfl (zA2 (v := .int .u64 _) rfl) ?_; refine zA rfl (zA2 (v := .int .i64 _) rfl) ?_; refine zA rfl (zA2 (v := .nilIface) rfl) ?_; refine zA4 (zA6 (zA1 ?_)); refine zA rfl (zA2 (v := .int .u64 _) rfl) ?_; refine zA4 ?_; refine zA6 ?_; refine zA6 (zA1 ?_); refine zA rfl (zA0 (v := .int .i64 _) rfl) ?_; refine zA4 ?_; refine zAw ?_
  refine zBw (X := Nat × Nat) [2, 3, 4, 5, 6, 7, 8, 9, 10, 11, 12, 13, 14, 15, 16, 17, 18, 19, 20, 21, 22, 23, 24, 25, 26, 27, 28, 29, 30, 31, 32, 33, 34, 35, 36, 37, 38, 39, 40, 41, 42, 43, 44, 45] (fun x => [(8, .int .i64 (x.1 : Nat)), (5, .int .u64 (x.2 : Nat))]) (fun x w => x.1 ≤ 10 ∧ x.2 < 2 ^ (7 * x.1) ∧ vgetF (10 - x.1) x.1 x.2 b = (k, n, q) ∧ Mem g w L) (fun x => 10 - x.1) ((0, 0)) ?_ ?_ ?_
  · exact ⟨rfl, rfl, trivial⟩
  · exact ⟨Nat.zero_le _, by decide, hk, hs⟩
  clear hs; rintro x ξ w hI; obtain ⟨i, s⟩ := x; obtain ⟨hi, hsm, hv, hs⟩ := hI; simp only at hi hsm hv hs
  show cw _ _ _ _ _ _ (updL (mix _ ξ _) [(8, .int .i64 (i : Nat)), (5, .int .u64 (s : Nat))]) w
  refine zA6 (zA1 ?_); refine zA rfl (zB7 rfl rfl) ?_; refine zA4 ?_; refine zA6 ?_; refine zB8 rfl ?_ ?_
  ·
   intro h9; have g9 := of_decide_eq_true h9; rw [show 10 - i = (9 - i) + 1 by omega] at hv; refine zAf ?_; refine zA6 ?_; refine zAw ?_; refine zA6 (zA1 ?_); refine zA rfl (zA0 (v := .int .i64 _) rfl) ?_; refine zA rfl (zA2 (v := .int .i64 _) rfl) ?_; refine zA4 ?_; refine zA6 ?_; refine zA6 (zA1 ?_); refine zA rfl (zA0 (v := .int .i64 _) rfl) ?_; refine zA rfl (zA0 (v := .slice _ _ _) rfl) ?_; refine zA rfl (zB2 zC0 rfl) ?_; refine zA rfl (zDd rfl rfl) ?_; refine zA4 ?_; refine zB8 rfl ?_ ?_
   ·
    intro h14; have g14 := of_decide_eq_true h14; rw [vgetF_none (List.getElem?_eq_none (by omega))] at hv
    cases hv
    refine zA6 ?_; refine zAy zBv hs ?_; intro w tr hK; replace hs := tr _ hs; clear tr; refine zA5 0 rfl rfl (fun w hs => zA8 zCq rfl rfl (hE.cellW hs 101 (by decide) rfl)) hK ?_; refine zA5 1 rfl rfl (fun w hs => zA2 (v := .int .u64 _) rfl) hK ?_; refine zA5 2 rfl rfl (fun w hs => zA2 (v := .int .i64 _) rfl) hK ?_; refine zA5 3 rfl rfl (fun w hs => zA2 (v := zAq ad _) rfl) hK ?_; refine zAp (by kernel_rfl) ?_; clear hK; refine zAg ?_; refine res3 (v := .int .u64 _) (v2 := .int .i64 _) (v3 := zAq ad _) rfl rfl rfl rfl ?_; exact ⟨_, rfl, rfl, hs⟩
   ·
    intro h14; have g14 := of_decide_eq_false h14; obtain ⟨ch, hch⟩ : ∃ ch, b[i]? = some ch := ⟨_, List.getElem?_eq_getElem (by omega)⟩; rw [zEz hch] at hv; obtain ⟨b1, o1, rfl, _⟩ := hr.cells' hs (by rw [zAu]; omega); have hcb := UInt8.toNat_lt ch; refine zAf ?_; refine zA6 (zA1 ?_); refine zA rfl (zA0 (v := .slice _ _ _) rfl) ?_; refine zA rfl (zA0 (v := .int .i64 _) rfl) ?_; refine zA rfl (zBk zC0 sz5 rfl rfl rfl (by omega) rfl) ?_; refine zA rfl (zA8 uz5 rfl rfl (hr.cellAt hs (zE2 hch))) ?_; refine zA rfl (zA2 (v := .int .u8 _) rfl) ?_; refine zA4 ?_; refine zA6 ?_; refine zA6 (zA1 ?_); refine zA rfl (zA0 (v := .int .i64 _) rfl) ?_; refine zA rfl (zBn rfl rfl) ?_
    refine zA rfl (zA0 (v := .bool _) rfl) ?_; refine zBa (t := _) (d := 22) rfl ?_ ?_
    ·
     intro h21; have g21 := of_decide_eq_true h21; refine zAi rfl rfl h21 ?_; refine zA rfl (zA0 (v := .int .u8 _) rfl) ?_; refine zAi rfl rfl h21 ?_; refine zA rfl (zBi rfl rfl) ?_; refine zA rfl (zAj (v := .bool _) rfl h21 rfl) ?_; refine zA4 ?_; refine zB8 rfl ?_ ?_
     ·
      intro h24; have g24 := of_decide_eq_true h24; rw [if_pos ⟨by omega, by omega⟩] at hv
      cases hv
      refine zBg rfl ?_; refine zA6 ?_; refine zAy zBv hs ?_; intro w tr hK; replace hs := tr _ hs; clear tr; refine zA5 0 rfl rfl (fun w hs => zA8 zCq rfl rfl (hE.cellW hs 103 (by decide) rfl)) hK ?_; refine zA5 1 rfl rfl (fun w hs => zA2 (v := .int .u64 _) rfl) hK ?_; refine zA5 2 rfl rfl (fun w hs => zA2 (v := .int .i64 _) rfl) hK ?_; refine zA5 3 rfl rfl (fun w hs => zA2 (v := zAq ad _) rfl) hK ?_; refine zAp (by kernel_rfl) ?_; clear hK; refine zAg ?_; refine res3 (v := .int .u64 _) (v2 := .int .i64 _) (v3 := zAq ad _) rfl rfl rfl rfl ?_; exact ⟨_, rfl, rfl, hs⟩
     ·
      intro h24; have g24 := of_decide_eq_false h24; rw [if_neg (by omega)] at hv
      have hc9 : i = 9 → ch.toNat ≤ 1 := fun _ => by omega
      obtain ⟨hx1, hx2, hx3⟩ := seven_in hsm (by omega) hc9; refine zAf ?_; refine zA6 (zA1 ?_); refine zA rfl (zA0 (v := .int .u64 _) rfl) ?_; refine zA rfl (zA0 (v := .int .u8 _) rfl) ?_; refine zA rfl (zEh (v := .int .u8 ((ch.toNat % 128 : Nat) : Int)) (by simp) rfl rfl (by rw [← low7b ch]; rfl)) ?_; refine zA rfl (zAh uz5 zBj rfl (c := ((ch.toNat % 128 : Nat) : Int)) (by rw [zB]; omega)) ?_; refine zA rfl (zA0 (v := .int .i64 _) rfl) ?_; refine zA rfl (zE3 rfl rfl (c := ((7 * i : Nat) : Int)) (by omega) (inI (by omega) (by omega))) ?_
      refine zA rfl (run_shl rfl rfl (n := 7 * i) (c := ((ch.toNat % 128 * 2 ^ (7 * i) : Nat) : Int)) rfl (by show 7 * i ≤ 64; omega) (by rw [zB, show ((ch.toNat % 128 : Nat) : Int) * 2 ^ (7 * i) = ((ch.toNat % 128 * 2 ^ (7 * i) : Nat) : Int) by push_cast; rfl]; omega)) ?_; refine zA rfl (zEh (v := .int .u64 ((s + ch.toNat % 128 * 2 ^ (7 * i) : Nat) : Int)) (by simp) rfl rfl (by rw [← or_add hsm, ← or_u64 s _ (by omega) hx2]; rfl)) ?_; refine zA rfl (zA2 (v := .int .u64 _) rfl) ?_; refine zA4 ?_; refine zA6 ?_; refine zA6 (zA1 ?_); refine zA rfl (zA0 (v := .int .u8 _) rfl) ?_; refine zA rfl (zDd rfl rfl) ?_; refine zA4 ?_; refine zB8 rfl ?_ ?_
      ·
       intro h35; have g35 := of_decide_eq_true h35; rw [if_pos (by omega)] at hv; refine zBg rfl ?_; refine zA1 ?_; refine zA rfl (zAs rfl rfl rfl (inI (by omega) (by omega))) ?_; refine zA rfl (zA0 (v := .int .i64 _) rfl) ?_; refine zA4 ?_; exact ⟨(i + 1, s + ch.toNat % 128 * 2 ^ (7 * i)), by simp only; omega, ⟨by simp only; omega, hx3, by show vgetF (10 - (i + 1)) (i + 1) _ b = _; rw [show 10 - (i + 1) = 9 - i by omega]; exact hv, hs⟩, ⟨rfl, rfl, trivial⟩, by repeat (first | exact Out.mix _ _ _ | refine Out.updo rfl ?_ | refine Out.upd rfl ?_ | refine Out.mixIn rfl ?_)⟩
      ·
       intro h35; have g35 := of_decide_eq_false h35; rw [if_neg (by omega)] at hv; refine zAf ?_; refine zA6 ?_; refine zA6 (zA1 ?_); refine zA rfl (zA0 (v := .int .i64 _) rfl) ?_; refine zA rfl (zBi rfl rfl) ?_; refine zA rfl (zA0 (v := .bool _) rfl) ?_; refine zBa (t := _) (d := 38) rfl ?_ ?_
       ·
        intro h37; have g37 := of_decide_eq_true h37; refine zAi rfl rfl h37 ?_; refine zA rfl (zA0 (v := .int .u8 _) rfl) ?_; refine zAi rfl rfl h37 ?_; refine zA rfl (zBn rfl rfl) ?_; refine zA rfl (zAj (v := .bool _) rfl h37 rfl) ?_; refine zA4 ?_; refine zB8 rfl ?_ ?_
        ·
         intro h40; have g40 := of_decide_eq_true h40; rw [if_pos ⟨by omega, by omega⟩] at hv
         cases hv
         refine zBg rfl ?_; refine zA6 ?_; refine zAy zBv hs ?_; intro w tr hK; replace hs := tr _ hs; clear tr; refine zA5 0 rfl rfl (fun w hs => zA8 zCq rfl rfl (hE.cellW hs 103 (by decide) rfl)) hK ?_; refine zA5 1 rfl rfl (fun w hs => zA2 (v := .int .u64 _) rfl) hK ?_; refine zA5 2 rfl rfl (fun w hs => zA2 (v := .int .i64 _) rfl) hK ?_; refine zA5 3 rfl rfl (fun w hs => zA2 (v := zAq ad _) rfl) hK ?_; refine zAp (by kernel_rfl) ?_; clear hK; refine zAg ?_; refine res3 (v := .int .u64 _) (v2 := .int .i64 _) (v3 := zAq ad _) rfl rfl rfl rfl ?_; exact ⟨_, rfl, rfl, hs⟩
        ·
         intro h40; have g40 := of_decide_eq_false h40; rw [if_neg (by omega)] at hv
         cases hv
         refine zAf ?_; refine zA6 (zA1 ?_); refine zA rfl (zA0 (v := .int .u64 _) rfl) ?_; refine zA rfl (zA0 (v := .int .i64 _) rfl) ?_; refine zA rfl (zAs rfl rfl rfl (inI (by omega) (by omega))) ?_; refine zA rfl (zA2 (v := .int .u64 _) rfl) ?_; refine zA rfl (zA2 (v := .int .i64 _) rfl) ?_; refine zA rfl (zA2 (v := .nilIface) rfl) ?_; refine zA4 ?_; refine zAg ?_; refine res3 (v := .int .u64 _) (v2 := .int .i64 _) (v3 := .nilIface) rfl rfl rfl rfl ?_; exact ⟨_, rfl, (by rw [zB6]; rfl), hs⟩
       ·
        intro h37; have g37 := of_decide_eq_false h37; rw [if_neg (by omega)] at hv
        cases hv
        refine zAc rfl rfl rfl h37 ?_; refine zAc rfl rfl rfl h37 ?_; refine zA rfl (zAk (v := .bool _) rfl h37 rfl) ?_; refine zA4 ?_; refine zAx rfl rfl ?_; refine zAf ?_; refine zA6 (zA1 ?_); refine zA rfl (zA0 (v := .int .u64 _) rfl) ?_; refine zA rfl (zA0 (v := .int .i64 _) rfl) ?_; refine zA rfl (zAs rfl rfl rfl (inI (by omega) (by omega))) ?_; refine zA rfl (zA2 (v := .int .u64 _) rfl) ?_; refine zA rfl (zA2 (v := .int .i64 _) rfl) ?_; refine zA rfl (zA2 (v := .nilIface) rfl) ?_; refine zA4 ?_; refine zAg ?_; refine res3 (v := .int .u64 _) (v2 := .int .i64 _) (v3 := .nilIface) rfl rfl rfl rfl ?_; exact ⟨_, rfl, (by rw [zB6]; rfl), hs⟩
    ·
     intro h21; have g21 := of_decide_eq_false h21; rw [if_neg (by omega)] at hv
     have hc9 : i = 9 → ch.toNat ≤ 1 := fun h => by omega
     obtain ⟨hx1, hx2, hx3⟩ := seven_in hsm (by omega) hc9; refine zAc rfl rfl rfl h21 ?_; refine zAc rfl rfl rfl h21 ?_; refine zA rfl (zAk (v := .bool _) rfl h21 rfl) ?_; refine zA4 ?_; refine zAx rfl rfl ?_; refine zAf ?_; refine zA6 (zA1 ?_); refine zA rfl (zA0 (v := .int .u64 _) rfl) ?_; refine zA rfl (zA0 (v := .int .u8 _) rfl) ?_; refine zA rfl (zEh (v := .int .u8 ((ch.toNat % 128 : Nat) : Int)) (by simp) rfl rfl (by rw [← low7b ch]; rfl)) ?_; refine zA rfl (zAh uz5 zBj rfl (c := ((ch.toNat % 128 : Nat) : Int)) (by rw [zB]; omega)) ?_; refine zA rfl (zA0 (v := .int .i64 _) rfl) ?_; refine zA rfl (zE3 rfl rfl (c := ((7 * i : Nat) : Int)) (by omega) (inI (by omega) (by omega))) ?_
     refine zA rfl (run_shl rfl rfl (n := 7 * i) (c := ((ch.toNat % 128 * 2 ^ (7 * i) : Nat) : Int)) rfl (by show 7 * i ≤ 64; omega) (by rw [zB, show ((ch.toNat % 128 : Nat) : Int) * 2 ^ (7 * i) = ((ch.toNat % 128 * 2 ^ (7 * i) : Nat) : Int) by push_cast; rfl]; omega)) ?_; refine zA rfl (zEh (v := .int .u64 ((s + ch.toNat % 128 * 2 ^ (7 * i) : Nat) : Int)) (by simp) rfl rfl (by rw [← or_add hsm, ← or_u64 s _ (by omega) hx2]; rfl)) ?_; refine zA rfl (zA2 (v := .int .u64 _) rfl) ?_; refine zA4 ?_; refine zA6 ?_; refine zA6 (zA1 ?_); refine zA rfl (zA0 (v := .int .u8 _) rfl) ?_; refine zA rfl (zDd rfl rfl) ?_; refine zA4 ?_; refine zB8 rfl ?_ ?_
     ·
      intro h35; have g35 := of_decide_eq_true h35; rw [if_pos (by omega)] at hv; refine zBg rfl ?_; refine zA1 ?_; refine zA rfl (zAs rfl rfl rfl (inI (by omega) (by omega))) ?_; refine zA rfl (zA0 (v := .int .i64 _) rfl) ?_; refine zA4 ?_; exact ⟨(i + 1, s + ch.toNat % 128 * 2 ^ (7 * i)), by simp only; omega, ⟨by simp only; omega, hx3, by show vgetF (10 - (i + 1)) (i + 1) _ b = _; rw [show 10 - (i + 1) = 9 - i by omega]; exact hv, hs⟩, ⟨rfl, rfl, trivial⟩, by repeat (first | exact Out.mix _ _ _ | refine Out.updo rfl ?_ | refine Out.upd rfl ?_ | refine Out.mixIn rfl ?_)⟩
     ·
      intro h35; have g35 := of_decide_eq_false h35; rw [if_neg (by omega)] at hv; refine zAf ?_; refine zA6 ?_; refine zA6 (zA1 ?_); refine zA rfl (zA0 (v := .int .i64 _) rfl) ?_; refine zA rfl (zBi rfl rfl) ?_; refine zA rfl (zA0 (v := .bool _) rfl) ?_; refine zBa (t := _) (d := 38) rfl ?_ ?_
      ·
       intro h37; have g37 := of_decide_eq_true h37; refine zAi rfl rfl h37 ?_; refine zA rfl (zA0 (v := .int .u8 _) rfl) ?_; refine zAi rfl rfl h37 ?_; refine zA rfl (zBn rfl rfl) ?_; refine zA rfl (zAj (v := .bool _) rfl h37 rfl) ?_; refine zA4 ?_; refine zB8 rfl ?_ ?_
       ·
        intro h40; have g40 := of_decide_eq_true h40; rw [if_pos ⟨by omega, by omega⟩] at hv
        cases hv
        refine zBg rfl ?_; refine zA6 ?_; refine zAy zBv hs ?_; intro w tr hK; replace hs := tr _ hs; clear tr; refine zA5 0 rfl rfl (fun w hs => zA8 zCq rfl rfl (hE.cellW hs 103 (by decide) rfl)) hK ?_; refine zA5 1 rfl rfl (fun w hs => zA2 (v := .int .u64 _) rfl) hK ?_; refine zA5 2 rfl rfl (fun w hs => zA2 (v := .int .i64 _) rfl) hK ?_; refine zA5 3 rfl rfl (fun w hs => zA2 (v := zAq ad _) rfl) hK ?_; refine zAp (by kernel_rfl) ?_; clear hK; refine zAg ?_; refine res3 (v := .int .u64 _) (v2 := .int .i64 _) (v3 := zAq ad _) rfl rfl rfl rfl ?_; exact ⟨_, rfl, rfl, hs⟩
       ·
        intro h40; have g40 := of_decide_eq_false h40; rw [if_neg (by omega)] at hv
        cases hv
        refine zAf ?_; refine zA6 (zA1 ?_); refine zA rfl (zA0 (v := .int .u64 _) rfl) ?_; refine zA rfl (zA0 (v := .int .i64 _) rfl) ?_; refine zA rfl (zAs rfl rfl rfl (inI (by omega) (by omega))) ?_; refine zA rfl (zA2 (v := .int .u64 _) rfl) ?_; refine zA rfl (zA2 (v := .int .i64 _) rfl) ?_; refine zA rfl (zA2 (v := .nilIface) rfl) ?_; refine zA4 ?_; refine zAg ?_; refine res3 (v := .int .u64 _) (v2 := .int .i64 _) (v3 := .nilIface) rfl rfl rfl rfl ?_; exact ⟨_, rfl, (by rw [zB6]; rfl), hs⟩
      ·
       intro h37; have g37 := of_decide_eq_false h37; rw [if_neg (by omega)] at hv
       cases hv
       refine zAc rfl rfl rfl h37 ?_; refine zAc rfl rfl rfl h37 ?_; refine zA rfl (zAk (v := .bool _) rfl h37 rfl) ?_; refine zA4 ?_; refine zAx rfl rfl ?_; refine zAf ?_; refine zA6 (zA1 ?_); refine zA rfl (zA0 (v := .int .u64 _) rfl) ?_; refine zA rfl (zA0 (v := .int .i64 _) rfl) ?_; refine zA rfl (zAs rfl rfl rfl (inI (by omega) (by omega))) ?_; refine zA rfl (zA2 (v := .int .u64 _) rfl) ?_; refine zA rfl (zA2 (v := .int .i64 _) rfl) ?_; refine zA rfl (zA2 (v := .nilIface) rfl) ?_; refine zA4 ?_; refine zAg ?_; refine res3 (v := .int .u64 _) (v2 := .int .i64 _) (v3 := .nilIface) rfl rfl rfl rfl ?_; exact ⟨_, rfl, (by rw [zB6]; rfl), hs⟩
  ·
   intro h9; have g9 := of_decide_eq_false h9; refine zBg rfl ?_; refine zA6 ?_; refine zAy zBv hs ?_; intro w tr hK; replace hs := tr _ hs; clear tr; refine zA5 0 rfl rfl (fun w hs => zA8 zCq rfl rfl (hE.cellW hs 103 (by decide) rfl)) hK ?_; refine zA5 1 rfl rfl (fun w hs => zA2 (v := .int .u64 _) rfl) hK ?_; refine zA5 2 rfl rfl (fun w hs => zA2 (v := .int .i64 _) rfl) hK ?_; refine zA5 3 rfl rfl (fun w hs => zA2 (v := zAq ad _) rfl) hK ?_; refine zAp (by kernel_rfl) ?_; clear hK; refine zAg ?_; refine res3 (v := .int .u64 _) (v2 := .int .i64 _) (v3 := zAq ad _) rfl rfl rfl rfl ?_
   obtain rfl : i = 10 := by omega
   cases hv
   exact ⟨_, rfl, rfl, hs⟩

/-! ### GetInt -/
def vgetI (b : List UInt8) : Nat × Int × Nat := ((vget b).1, zag (vget b).2.1, (vget b).2.2)
theorem vgetF_lt : ∀ {f i n : Nat} {b : List UInt8} {k m q : Nat}, i + f = 10 → n < 2 ^ (7 * i) → vgetF f i n b = (k, m, q) → m < 18446744073709551616
  | 0, _, _, _, _, _, _, _, _, h => by cases h; decide
  | f + 1, i, n, b, k, m, q, hi, hn, h => by
    cases hb : b[i]? with
    | none => rw [vgetF_none hb] at h; cases h; decide
    | some c =>
      rw [zEz hb] at h
      split at h
      · cases h; decide
      · rename_i h1
        have hx := seven_in hn (by omega) (fun e => by omega : i = 9 → c.toNat ≤ 1)
        split at h
        · exact vgetF_lt (by omega) hx.2.2 h
        · split at h
          · cases h; decide
          · cases h; exact hx.1
theorem vget_lt {b : List UInt8} {k m q : Nat} (h : vget b = (k, m, q)) : m < 18446744073709551616 := vgetF_lt rfl (by decide) h
theorem wrap_i64 {n : Int} (h : zCp n) : IntKind.i64.wrap n = n := h.wrap
theorem xor_i64_0 (m : Nat) (h : m < 9223372036854775808) : bits .xor .i64 (m : Int) 0 = (m : Int) := by
  show IntKind.i64.wrap ((BitVec.ofInt 64 (m : Int) ^^^ BitVec.ofInt 64 0).toNat : Int) = _
  rw [show BitVec.ofInt 64 0 = 0#64 from rfl, BitVec.xor_zero, u64_nat m (by omega)]; exact wrap_i64 ⟨by omega, by omega⟩
theorem xor_i64_1 (m : Nat) (h : m < 9223372036854775808) : bits .xor .i64 (m : Int) (-1) = -(m : Int) - 1 := by
  have hx : (BitVec.ofInt 64 (m : Int) ^^^ BitVec.ofInt 64 (-1)).toNat = 18446744073709551615 - m := by
    rw [show BitVec.ofInt 64 (-1) = BitVec.allOnes 64 from rfl, BitVec.xor_allOnes, BitVec.toNat_not, u64_nat m (by omega)]
  show IntKind.i64.wrap ((BitVec.ofInt 64 (m : Int) ^^^ BitVec.ofInt 64 (-1)).toNat : Int) = _
  rw [hx]; simp only [IntKind.wrap, IntKind.bits, IntKind.signed]
  have h64 : (2 : Int) ^ 64 = 18446744073709551616 := by decide
  have h63 : (2 : Int) ^ (64 - 1) = 9223372036854775808 := by decide
  simp only [h64, h63]
  have e : ((18446744073709551615 - m : Nat) : Int) % 18446744073709551616 = 18446744073709551615 - (m : Int) := by omega
  simp only [e, Bool.true_and, decide_eq_true_eq]; rw [if_pos (by omega)]
  omega
theorem zag_bits (n : Nat) (h : n < 18446744073709551616) : bits .xor .i64 ((n / 2 : Nat) : Int) (-((n % 2 : Nat) : Int)) = zag n := by
  unfold zag
  rcases Nat.mod_two_eq_zero_or_one n with h2 | h2
  · rw [h2, if_pos rfl]; exact xor_i64_0 _ (by omega)
  · rw [h2, if_neg (by decide)]; exact xor_i64_1 _ (by omega)
theorem vgetI_sl (hE : ErrW ad g) (hs : Mem g w L) {a : Option Addr} {m c : Nat} {b : List UInt8} (hr : Rd g L (.slice a m c) (zAm b)) (hm : m = b.length) (hlen : b.length ≤ 1073741824) {k q : Nat} {z : Int} (hk : vgetI b = (k, z, q)) :
    Calls Tryz.prog 171 #[.slice a m c] w (Ret fun v w' => v = .tuple #[.int .i64 z, .int .i64 q, zAq ad k] ∧ Mem g w' L) := by
  obtain ⟨k0, n, q0, hv⟩ : ∃ k n q, vget b = (k, n, q) := ⟨_, _, _, rfl⟩; have hn := vget_lt hv; simp only [vgetI, hv, Prod.mk.injEq] at hk; obtain ⟨rfl, rfl, rfl⟩ := hk; have hand : n &&& 1 = n % 2 := Nat.and_one_is_mod n; refine zAo Tryz.func171 rfl rfl ?_
  skip
  refine zA6 (zA1 ?_); refine zA rfl (zA2 (v := .int .i64 _) rfl) ?_; refine zA rfl (zA2 (v := .int .i64 _) rfl) ?_; refine zA rfl (zA2 (v := .nilIface) rfl) ?_; refine zA4 (zA6 (zA1 ?_)); refine zA rfl (zA0 (v := .slice _ _ _) rfl) ?_; refine zAb rfl en109 (vget_sl hE hs hr hm hlen hv) ?_; clear hs; rintro _ w ⟨rfl, hs⟩; refine zA rfl (zA0 (v := .tuple _) rfl) ?_; refine zA rfl (zAa (v := .int .u64 _) rfl rfl) ?_; refine zA rfl (zAa (v := .int .i64 _) rfl rfl) ?_; refine zA rfl (zAa (v := zAq ad _) rfl rfl) ?_; refine zA rfl (zA2 (v := .int .u64 _) rfl) ?_; refine zA rfl (zA2 (v := .int .i64 _) rfl) ?_; refine zA rfl (zA2 (v := zAq ad _) rfl) ?_; refine zA4 (zA6 (zA1 ?_))
  refine zA rfl (zA0 (v := .int .u64 _) rfl) ?_; refine zA rfl (run_shr rfl rfl (n := 1) (c := ((n / 2 : Nat) : Int)) rfl (by decide) (by omega)) ?_; refine zA rfl (zAh zBj uz2 rfl (c := ((n / 2 : Nat) : Int)) (wrap_i64 ⟨by omega, by omega⟩)) ?_; refine zA rfl (zA0 (v := .int .u64 _) rfl) ?_; refine zA rfl (zEh (v := .int .u64 ((n % 2 : Nat) : Int)) (by simp) rfl rfl (by rw [← hand, ← and_u64 n 1 hn (by decide)]; rfl)) ?_; refine zA rfl (zAh zBj uz2 rfl (c := ((n % 2 : Nat) : Int)) (wrap_i64 ⟨by omega, by omega⟩)) ?_; refine zA rfl (run_neg64 rfl (c := -((n % 2 : Nat) : Int)) rfl (inI (by omega) (by omega))) ?_
  refine zA rfl (zEh (v := .int .i64 (zag n)) (by simp) rfl rfl (by rw [← zag_bits n hn]; rfl)) ?_; refine zA rfl (zA0 (v := .int .i64 _) rfl) ?_; refine zA rfl (zA0 (v := zAq ad _) rfl) ?_; refine zA rfl (zA2 (v := .int .i64 _) rfl) ?_; refine zA rfl (zA2 (v := .int .i64 _) rfl) ?_; refine zA rfl (zA2 (v := zAq ad _) rfl) ?_; refine zA4 ?_; refine zAg ?_; refine res3 (v := .int .i64 _) (v2 := .int .i64 _) (v3 := zAq ad _) rfl rfl rfl rfl ?_; exact ⟨_, rfl, rfl, hs⟩

/-! ### errors with a place -/
theorem run_neerr {ρ : Env} {dst : Option Tmp} {ty : TypeId} {pos : String} {aft : Array Edge} {x y : Operand} {u : TypeId} {Lc : List Nat} {B : Nat} (h : Errs Lc ad B w) {c d : Nat} (hc : c = 0 ∨ c ∈ Lc) (hd : d ∈ Lc) (hx : ev ρ x = zAq ad c) (hy : ev ρ y = zAq ad d) : (execOp (ev ρ) ⟨dst, .binOp .neq 27 x y u, ty, pos, aft, none⟩).run Tryz.prog w = .ok (.value (.bool (!decide (c = d)))) w := by
  have hgd := guard_code ad .neq 27 x y (w := w) c (h.pos d hd); simp only [execOp, hx, hy, Sem.run_bind, hgd, binOp_errN, equal_err h hc hd, Result.andThen_ok, Sem.run_pure]
/-- An error of the reader's: none, the bare one, or one with a place (in block eb). -/
def eV (ad : Nat → Addr) (c eb : Nat) : Value := if c = 0 then .nilIface else if c = 101 then zAq ad 101 else .iface 104 (.pointer (some ⟨eb, 0, none⟩))
theorem eV_0 (eb : Nat) : eV ad 0 eb = .nilIface := rfl
theorem eV_101 (eb : Nat) : eV ad 101 eb = zAq ad 101 := rfl
theorem eV_at {c : Nat} (h0 : c ≠ 0) (h1 : c ≠ 101) (eb : Nat) : eV ad c eb = .iface 104 (.pointer (some ⟨eb, 0, none⟩)) := by simp [eV, h0, h1]
section
variable {ρ : Env} {dst : Option Tmp} {ty : TypeId} {pos : String} {aft : Array Edge} {x : Operand} {u : TypeId} {c eb : Nat}
theorem run_eqE (hx : ev ρ x = eV ad c eb) : (execOp (ev ρ) ⟨dst, .binOp .eql 27 x (.const .nilIface) u, ty, pos, aft, none⟩).run Tryz.prog w = .ok (.value (.bool (decide (c = 0)))) w := by
  unfold eV at hx
  split at hx
  · rename_i h; subst h; exact zEf hx
  · rename_i h
    split at hx
    · rename_i h1; subst h1; exact zD3 hx
    · rw [decide_eq_false h]
      have hy : ev ρ (.const .nilIface) = .nilIface := rfl
      have hg : (eqGuard .eql 27 x (.const .nilIface) (.iface 104 (.pointer (some ⟨eb, 0, none⟩))) .nilIface).run Tryz.prog w = .ok () w := by cases x <;> rfl
      have hb : binOp .eql 27 (.iface 104 (.pointer (some ⟨eb, 0, none⟩))) .nilIface = (do pure (.bool (← Op.equal 27 (.iface 104 (.pointer (some ⟨eb, 0, none⟩))) .nilIface))) := rfl
      have he : (Op.equal 27 (.iface 104 (.pointer (some ⟨eb, 0, none⟩))) .nilIface).run Tryz.prog w = .ok false w := by
        show (Op.equalIn 10000 _ _ _).run Tryz.prog w = _
        rw [Op.equalIn]
        simp [run_underlying zCq]
      simp only [execOp, hx, hy, Sem.run_bind, hg, hb, he, Result.andThen_ok, Sem.run_pure]
theorem run_neE (hx : ev ρ x = eV ad c eb) : (execOp (ev ρ) ⟨dst, .binOp .neq 27 x (.const .nilIface) u, ty, pos, aft, none⟩).run Tryz.prog w = .ok (.value (.bool (!decide (c = 0)))) w := by
  unfold eV at hx
  split at hx
  · rename_i h; subst h; exact zBf hx
  · rename_i h
    split at hx
    · rename_i h1; subst h1; exact zAt hx
    · rw [decide_eq_false h]
      have hy : ev ρ (.const .nilIface) = .nilIface := rfl
      have hg : (eqGuard .neq 27 x (.const .nilIface) (.iface 104 (.pointer (some ⟨eb, 0, none⟩))) .nilIface).run Tryz.prog w = .ok () w := by cases x <;> rfl
      have hb : binOp .neq 27 (.iface 104 (.pointer (some ⟨eb, 0, none⟩))) .nilIface = (do pure (.bool (!(← Op.equal 27 (.iface 104 (.pointer (some ⟨eb, 0, none⟩))) .nilIface)))) := rfl
      have he : (Op.equal 27 (.iface 104 (.pointer (some ⟨eb, 0, none⟩))) .nilIface).run Tryz.prog w = .ok false w := by
        show (Op.equalIn 10000 _ _ _).run Tryz.prog w = _
        rw [Op.equalIn]
        simp [run_underlying zCq]
      simp only [execOp, hx, hy, Sem.run_bind, hg, hb, he, Result.andThen_ok, Sem.run_pure]
end
/-- What a placed error points at. -/
def errC (ad : Nat → Addr) (eb at_ c : Nat) : HP := if c = 0 ∨ c = 101 then emp else cells eb [.int .i64 at_, zAq ad c] 109
theorem emp_ok (w : World) : emp.ok (fun _ => False) w := fun _ h => h
theorem errC_bare {eb at_ c : Nat} (h : c = 0 ∨ c = 101) : errC ad eb at_ c = emp := if_pos h
theorem errC_at {eb at_ c : Nat} (h : ¬ (c = 0 ∨ c = 101)) : errC ad eb at_ c = cells eb [.int .i64 at_, zAq ad c] 109 := if_neg h
/-- The reader: its bytes, where it is, what was amiss. -/
def zFc (rb : Nat) (ad : Nat → Addr) (b : List UInt8) (st : Nat × Nat) : HP := ex fun x : Option Addr × Nat × Nat => also (stars [cells rb [.slice x.1 b.length x.2.1, .int .i64 st.1, eV ad st.2 x.2.2] 171, own (.slice x.1 b.length x.2.1) (zAm b), errC ad x.2.2 st.1 st.2]) (st.1 ≤ b.length)
theorem Mem.openR {rb : Nat} {b : List UInt8} {st : Nat × Nat} (hs : Mem g w (zFc rb ad b st :: L)) : st.1 ≤ b.length ∧ ∃ a c eb, b.length ≤ c ∧ Mem g w (cells rb [.slice a b.length c, .int .i64 st.1, eV ad st.2 eb] 171 :: own (.slice a b.length c) (zAm b) :: errC ad eb st.1 st.2 :: L) := by
  obtain ⟨⟨a, c, eb⟩, h⟩ := hs.unex; obtain ⟨h1, h2⟩ := h.unalso; have h3 := h2.unstars; exact ⟨h1, a, c, eb, (h3.ownForm 1 rfl).2.1, h3⟩
theorem Mem.closeR {rb : Nat} {b : List UInt8} {st : Nat × Nat} {a : Option Addr} {c eb : Nat} (hl : st.1 ≤ b.length) (hs : Mem g w (cells rb [.slice a b.length c, .int .i64 st.1, eV ad st.2 eb] 171 :: own (.slice a b.length c) (zAm b) :: errC ad eb st.1 st.2 :: L)) : Mem g w (zFc rb ad b st :: L) :=
  Mem.ex (f := fun x : Option Addr × Nat × Nat => Go.Proofs.YtdkgdjnbpjjfmaaGreatDoor.also (Go.Proofs.YtdkgdjnbpjjfmaaGreatDoor.stars [cells rb [.slice x.1 b.length x.2.1, .int .i64 st.1, eV ad st.2 x.2.2] 171, own (.slice x.1 b.length x.2.1) (zAm b), errC ad x.2.2 st.1 st.2]) (st.1 ≤ b.length)) (a, c, eb) (Mem.also hl (Mem.stars (M := [cells rb [.slice a b.length c, .int .i64 st.1, eV ad st.2 eb] 171, own (.slice a b.length c) (zAm b), errC ad eb st.1 st.2]) hs))
theorem Mem.closeR0 {rb at_ e0 : Nat} {b : List UInt8} {a : Option Addr} {c eb : Nat} (hl : at_ ≤ b.length) (hs : Mem g w (cells rb [.slice a b.length c, .int .i64 at_, .nilIface] 171 :: own (.slice a b.length c) (zAm b) :: errC ad eb e0 0 :: L)) : Mem g w (zFc rb ad b (at_, 0) :: L) :=
  Mem.closeR (st := (at_, 0)) (a := a) (c := c) (eb := 0) hl hs
attribute [local irreducible] eV
theorem zFv (ad : Nat → Addr) (hs : Mem g w L) {a : Option Addr} {m c : Nat} {b : List UInt8} (hr : Rd g L (.slice a m c) (zAm b)) (hm : m = b.length) (hlen : b.length ≤ 1073741824) :
    Calls Tryz.prog 68 #[.slice a m c] w (Ret fun v w' => ∃ rb, v = .pointer (some ⟨rb, 0, none⟩) ∧ Mem g w' (zFc rb ad b (0, 0) :: L)) := by
  subst hm; refine zAo Tryz.func68 rfl rfl ?_
  skip
  refine zA6 (zA1 ?_); refine zA rfl (zA2 (v := .pointer none) rfl) ?_; refine zA4 (zA6 (zA1 ?_)); refine zA rfl (zA0 (v := .slice _ _ _) rfl) ?_; refine zAb rfl en46 (zFh hs (l := b) hr hlen) ?_; clear hs; rintro _ w ⟨a4, c4, rfl, hs⟩; rw [zAu] at hs ⊢; refine zA rfl (zC3 (cs := [.slice a4 b.length c4, .int .i64 0, .nilIface]) zC6 ze171 pl171 rfl) ?_; refine zCj (v := .agg _) hs rfl rfl ?_; clear hs; intro b6 w hs; refine zA rfl (zA2 (v := .pointer (some _)) rfl) ?_; refine zA4 ?_; refine zAg ?_; refine zBl (v := .pointer (some _)) rfl rfl ?_
  exact ⟨_, rfl, b6, rfl, Mem.closeR (st := (0, 0)) (a := a4) (c := c4) (eb := 0) (Nat.zero_le _) (by show Mem g w (cells b6 [_, _, eV ad 0 0] _ :: _ :: errC ad 0 0 0 :: L); rw [eV_0, errC_bare (.inl rfl)]; exact (hs.addE (emp_ok _)).arr [1, 2, 0] 3 (by decide))⟩
theorem err_sl {rb : Nat} {b : List UInt8} {st : Nat × Nat} (hs : Mem g w (zFc rb ad b st :: L)) : Calls Tryz.prog 70 #[.pointer (some ⟨rb, 0, none⟩)] w (Ret fun v w' => ∃ eb, v = eV ad st.2 eb ∧ Mem g w' (zFc rb ad b st :: L)) := by
  obtain ⟨hl, a, c, eb, hc, hs⟩ := hs.openR; refine zAo Tryz.func70 rfl rfl ?_
  skip
  refine zA6 (zA1 ?_); refine zA rfl (zA2 (v := .nilIface) rfl) ?_; refine zA4 (zA6 (zA1 ?_)); refine zA rfl (zA0 (v := .pointer (some _)) rfl) ?_; refine zA rfl (zA7 rfl) ?_; refine zA rfl (zA3 (o' := 2) zC6 rfl sz27 rfl rfl rfl) ?_; refine zA rfl (zA8 zCq rfl rfl (hs.cellAt 0 rfl rfl)) ?_; refine zA rfl (zA2 (v := eV ad _ _) rfl) ?_; refine zA4 ?_; refine zAg ?_; refine zBl (v := eV ad _ _) rfl rfl ?_; exact ⟨_, rfl, eb, rfl, Mem.closeR hl hs⟩
/-- The error handed on: the reader is let go. -/
theorem errC_sl {rb : Nat} {b : List UInt8} {st : Nat × Nat} (hs : Mem g w (zFc rb ad b st :: L)) : Calls Tryz.prog 70 #[.pointer (some ⟨rb, 0, none⟩)] w (Ret fun v w' => ∃ eb, v = eV ad st.2 eb ∧ Mem g w' (errC ad eb st.1 st.2 :: L)) := by
  obtain ⟨hl, a, c, eb, hc, hs⟩ := hs.openR; refine zAo Tryz.func70 rfl rfl ?_
  skip
  refine zA6 (zA1 ?_); refine zA rfl (zA2 (v := .nilIface) rfl) ?_; refine zA4 (zA6 (zA1 ?_)); refine zA rfl (zA0 (v := .pointer (some _)) rfl) ?_; refine zA rfl (zA7 rfl) ?_; refine zA rfl (zA3 (o' := 2) zC6 rfl sz27 rfl rfl rfl) ?_; refine zA rfl (zA8 zCq rfl rfl (hs.cellAt 0 rfl rfl)) ?_; refine zA rfl (zA2 (v := eV ad _ _) rfl) ?_; refine zA4 ?_; refine zAg ?_; refine zBl (v := eV ad _ _) rfl rfl ?_; exact ⟨_, rfl, eb, rfl, hs.suffix 2 rfl⟩
theorem left_sl {rb : Nat} {b : List UInt8} {st : Nat × Nat} (hs : Mem g w (zFc rb ad b st :: L)) (hlen : b.length ≤ 1073741824) : Calls Tryz.prog 114 #[.pointer (some ⟨rb, 0, none⟩)] w (Ret fun v w' => v = .int .i64 ((b.length - st.1 : Nat) : Int) ∧ st.1 ≤ b.length ∧ Mem g w' (zFc rb ad b st :: L)) := by
  obtain ⟨hl, a, c, eb, hc, hs⟩ := hs.openR; refine zAo Tryz.func114 rfl rfl ?_
  skip
  refine zA6 (zA1 ?_); refine zA rfl (zA2 (v := .int .i64 _) rfl) ?_; refine zA4 ?_; refine zA6 ?_; refine zAy zBv hs ?_; intro w tr hK; replace hs := tr _ hs; clear tr; refine zA5 0 rfl rfl (fun w hs => zA0 (v := .pointer (some _)) rfl) hK ?_; refine zA5 1 rfl rfl (fun w hs => zA7 rfl) hK ?_; refine zA5 2 rfl rfl (fun w hs => zA3 (o' := 0) zC6 rfl sz23 rfl rfl rfl) hK ?_; refine zA5 3 rfl rfl (fun w hs => zA8 zC0 rfl rfl (hs.cellAt 0 rfl rfl)) hK ?_; refine zA5 4 rfl rfl (fun w hs => zB2 zC0 rfl) hK ?_; refine zA5 5 rfl rfl (fun w hs => zA0 (v := .pointer (some _)) rfl) hK ?_; refine zA5 6 rfl rfl (fun w hs => zA7 rfl) hK ?_
  refine zA5 7 rfl rfl (fun w hs => zA3 (o' := 1) zC6 rfl sz3 rfl rfl rfl) hK ?_; refine zA5 8 rfl rfl (fun w hs => zA8 uz3 rfl rfl (hs.cellAt 0 rfl rfl)) hK ?_; refine zA5 9 rfl rfl (fun w hs => zCg rfl rfl (c := ((b.length - st.1 : Nat) : Int)) (by omega) (inI (by omega) (by omega))) hK ?_; refine zA5 10 rfl rfl (fun w hs => zA2 (v := .int .i64 _) rfl) hK ?_; refine zAp (by kernel_rfl) ?_; clear hK; refine zAg ?_; refine zBl (v := .int .i64 _) rfl rfl ?_; exact ⟨_, rfl, rfl, hl, Mem.closeR hl hs⟩
theorem at_sl {rb : Nat} {b : List UInt8} {st : Nat × Nat} (hs : Mem g w (zFc rb ad b st :: L)) : Calls Tryz.prog 72 #[.pointer (some ⟨rb, 0, none⟩)] w (Ret fun v w' => v = .int .i64 (st.1 : Nat) ∧ Mem g w' (zFc rb ad b st :: L)) := by
  obtain ⟨hl, a, c, eb, hc, hs⟩ := hs.openR; refine zAo Tryz.func72 rfl rfl ?_
  skip
  refine zA6 (zA1 ?_); refine zA rfl (zA2 (v := .int .i64 _) rfl) ?_; refine zA4 (zA6 (zA1 ?_)); refine zA rfl (zA0 (v := .pointer (some _)) rfl) ?_; refine zA rfl (zA7 rfl) ?_; refine zA rfl (zA3 (o' := 1) zC6 rfl sz3 rfl rfl rfl) ?_; refine zA rfl (zA8 uz3 rfl rfl (hs.cellAt 0 rfl rfl)) ?_; refine zA rfl (zA2 (v := .int .i64 _) rfl) ?_; refine zA4 ?_; refine zAg ?_; refine zBl (v := .int .i64 _) rfl rfl ?_; exact ⟨_, rfl, rfl, Mem.closeR hl hs⟩
/-- An error is noted. -/
theorem bad_sl (hE : ErrW ad g) {rb at_ : Nat} {b : List UInt8} {k : Nat} (hk : k ∈ vintCodes) (hs : Mem g w (zFc rb ad b (at_, 0) :: L)) : Calls Tryz.prog 110 #[.pointer (some ⟨rb, 0, none⟩), .int .i64 at_, zAq ad k] w (Ret fun v w' => v = .tuple #[] ∧ Mem g w' (zFc rb ad b (at_, k) :: L)) := by
  obtain ⟨hl, a, c, eb, hc, hs⟩ := hs.openR
  have hk0 : k ≠ 0 := fun e => by subst e; exact absurd hk (by decide)
  refine zAo Tryz.func110 rfl rfl ?_
  skip
  refine zA6 (zA1 ?_); refine zA rfl (zA0 (v := .pointer (some _)) rfl) ?_; refine zA rfl (zA0 (v := .int .i64 _) rfl) ?_; refine zA rfl (zA7 rfl) ?_; refine zA rfl (zA3 (o' := 1) zC6 rfl sz3 rfl rfl rfl) ?_; refine zAr (v := .int .i64 _) hs 0 rfl sz3 rfl rfl rfl rfl ?_; clear hs; intro w hs
  try simp only [List.set_cons_succ, List.set_cons_zero] at hs
  refine zA4 (zA6 (zA1 ?_)); refine zA rfl (zA0 (v := .pointer (some _)) rfl) ?_; refine zA rfl (zA0 (v := zAq ad _) rfl) ?_; refine zA rfl (zA7 rfl) ?_; refine zA rfl (zA3 (o' := 2) zC6 rfl sz27 rfl rfl rfl) ?_; refine zAr (v := zAq ad k) hs 0 rfl sz27 rfl rfl rfl (errV_one ad k) ?_; clear hs; intro w hs; simp only [List.set_cons_succ, List.set_cons_zero] at hs; refine zA4 (zA6 (zA1 ?_)); refine zA rfl (zA0 (v := zAq ad _) rfl) ?_; refine zA rfl (zA8 zCq rfl rfl (hE.cellW hs 101 (by decide) rfl)) ?_; refine zA rfl (run_neerr (hE.atW hs) (.inr hk) (by decide) rfl rfl) ?_; refine zA4 ?_; refine zB8 rfl ?_ ?_
  ·
   intro h16; have g16 := ne_t h16; refine zA1 ?_; refine zA rfl (zA0 (v := .pointer (some _)) rfl) ?_; refine zA rfl (zA0 (v := .int .i64 _) rfl) ?_; refine zA rfl (zA0 (v := zAq ad _) rfl) ?_; refine zA rfl (zB3 [.int .i64 at_, zAq ad k] uz109 ze109 pl109 rfl (at_one _ _) rfl rfl) ?_; refine zCj (v := .agg _) hs rfl rfl ?_; clear hs; intro b21 w hs; refine zA rfl (run_mkI uz104 rfl) ?_; refine zA rfl (zA7 rfl) ?_; refine zA rfl (zA3 (o' := 2) zC6 rfl sz27 rfl rfl rfl) ?_; refine zAr (v := .iface _ (.pointer (some _))) hs 1 rfl sz27 rfl rfl rfl rfl ?_; clear hs; intro w hs
   try simp only [List.set_cons_succ, List.set_cons_zero] at hs
   refine zA4 ?_; refine res0  rfl ?_
   have hne : k ≠ 101 := by simpa using h16
   refine ⟨_, rfl, rfl, Mem.closeR (st := (at_, k)) (a := a) (c := c) (eb := b21) hl ?_⟩; rw [eV_at hk0 hne, errC_at (by omega)]; exact hs.arr [1, 2, 0] 4 (by decide)
  ·
   intro h16; have g16 := ne_f h16; refine zAf ?_; refine res0  rfl ?_
   have he : k = 101 := by simpa using h16
   subst he; refine ⟨_, rfl, rfl, Mem.closeR (st := (at_, 101)) (a := a) (c := c) (eb := eb) hl ?_⟩; rw [eV_101, errC_bare (.inr rfl)]; exact hs
/-! ### Num, Int -/
theorem vgetF_q : ∀ {f i n : Nat} {b : List UInt8} {m q : Nat}, vgetF f i n b = (0, m, q) → q ≤ b.length
  | 0, _, _, _, _, _, h => by cases h
  | f + 1, i, n, b, m, q, h => by
    cases hb : b[i]? with
    | none => rw [vgetF_none hb] at h; cases h
    | some c =>
      have hlt := (List.getElem?_eq_some_iff.1 hb).1; rw [zEz hb] at h
      split at h
      · cases h
      · split at h
        · exact vgetF_q h
        · split at h
          · cases h
          · cases h; omega
theorem vgetF_code : ∀ {f i n : Nat} {b : List UInt8} {k m q : Nat}, vgetF f i n b = (k, m, q) → k = 0 ∨ k = 101 ∨ k = 103
  | 0, _, _, _, _, _, _, h => by cases h; simp
  | f + 1, i, n, b, k, m, q, h => by
    cases hb : b[i]? with
    | none => rw [vgetF_none hb] at h; cases h; simp
    | some c =>
      rw [zEz hb] at h
      split at h
      · cases h; simp
      · split at h
        · exact vgetF_code h
        · split at h
          · cases h; simp
          · cases h; simp
def zEr (most : Nat) (b : List UInt8) (st : Nat × Nat) : Nat × Nat × Nat :=
  if st.2 ≠ 0 then (0, st) else if (vget (b.drop st.1)).1 ≠ 0 then (0, st.1, (vget (b.drop st.1)).1) else if most < (vget (b.drop st.1)).2.1 then (0, st.1, 105) else ((vget (b.drop st.1)).2.1, st.1 + (vget (b.drop st.1)).2.2, 0)
def vintS (b : List UInt8) (st : Nat × Nat) : Int × Nat × Nat :=
  if st.2 ≠ 0 then (0, st) else if (vgetI (b.drop st.1)).1 ≠ 0 then (0, st.1, (vgetI (b.drop st.1)).1) else ((vgetI (b.drop st.1)).2.1, st.1 + (vgetI (b.drop st.1)).2.2, 0)
theorem zCo (hE : ErrW ad g) {rb : Nat} {b : List UInt8} {st : Nat × Nat} (hs : Mem g w (zFc rb ad b st :: L)) (hlen : b.length ≤ 1073741824) {most n : Nat} {st2 : Nat × Nat} (hk : zEr most b st = (n, st2)) :
    Calls Tryz.prog 69 #[.pointer (some ⟨rb, 0, none⟩), .int .u64 most] w (Ret fun v w' => v = .int .u64 n ∧ Mem g w' (zFc rb ad b st2 :: L)) := by
  obtain ⟨at_, code⟩ := st
  by_cases hc0 : code = 0
  · subst hc0
    obtain ⟨k, x, q, hv⟩ : ∃ k x q, vget (b.drop at_) = (k, x, q) := ⟨_, _, _, rfl⟩; have hcode := vgetF_code hv; obtain ⟨hl, a, c, eb, hc, hs⟩ := hs.openR; simp only at hl; simp only [zEr, hv] at hk; rw [if_neg (by decide)] at hk; simp only [eV_0] at hs; refine zAo Tryz.func69 rfl rfl ?_
    skip
    refine zA6 (zA1 ?_); refine zA rfl (zA2 (v := .int .u64 _) rfl) ?_; refine zA4 ?_; refine zA6 ?_; refine zA6 (zA1 ?_); refine zA rfl (zA0 (v := .pointer (some _)) rfl) ?_; refine zA rfl (zA7 rfl) ?_; refine zA rfl (zA3 (o' := 2) zC6 rfl sz27 rfl rfl rfl) ?_; refine zA rfl (zA8 zCq rfl rfl (hs.cellAt 0 rfl rfl)) ?_; refine zA rfl (zBf rfl) ?_; refine zA4 ?_; refine zAx rfl (rfl) ?_; refine zAf ?_; refine zA6 ?_; refine zAy zBv hs ?_; intro w tr hK; replace hs := tr _ hs; clear tr; refine zA5 0 rfl rfl (fun w hs => zA0 (v := .pointer (some _)) rfl) hK ?_; refine zA5 1 rfl rfl (fun w hs => zA7 rfl) hK ?_; refine zA5 2 rfl rfl (fun w hs => zA3 (o' := 0) zC6 rfl sz23 rfl rfl rfl) hK ?_
    refine zA5 3 rfl rfl (fun w hs => zA8 zC0 rfl rfl (hs.cellAt 0 rfl rfl)) hK ?_; refine zA5 4 rfl rfl (fun w hs => zA0 (v := .pointer (some _)) rfl) hK ?_; refine zA5 5 rfl rfl (fun w hs => zA7 rfl) hK ?_; refine zA5 6 rfl rfl (fun w hs => zA3 (o' := 1) zC6 rfl sz3 rfl rfl rfl) hK ?_; refine zA5 7 rfl rfl (fun w hs => zA8 uz3 rfl rfl (hs.cellAt 0 rfl rfl)) hK ?_; refine zA5 8 rfl rfl (fun w hs => zC2 zC0 sz5 rfl rfl (lo := at_) rfl (by omega)) hK ?_; refine zA9 [9] ?_; refine ⟨⟨_, rfl, ?_⟩, trivial⟩
    refine zAb rfl en109 (vget_sl hE hs (k := k) (n := x) (q := q) (b := (b.take b.length).drop at_) ((hs.rdOwn 1 rfl).subB hl (Nat.le_refl _)) (by simp) (by simp; omega) (by rw [List.take_length]; exact hv)) ?_; clear hs; rintro _ w ⟨rfl, hs⟩; clear hK; have hK := hs; refine zA4 ⟨hK, ?_⟩; refine zA5 10 rfl rfl (fun w hs => zA0 (v := .tuple _) rfl) hK ?_; refine zA5 11 rfl rfl (fun w hs => zAa (v := .int .u64 _) rfl rfl) hK ?_; refine zA5 12 rfl rfl (fun w hs => zAa (v := .int .i64 _) rfl rfl) hK ?_; refine zA5 13 rfl rfl (fun w hs => zAa (v := zAq ad _) rfl rfl) hK ?_; refine zA5 14 rfl rfl (fun w hs => zA2 (v := .int .u64 _) rfl) hK ?_
    refine zA5 15 rfl rfl (fun w hs => zA2 (v := .int .i64 _) rfl) hK ?_; refine zA5 16 rfl rfl (fun w hs => zA2 (v := zAq ad _) rfl) hK ?_; refine zAp (by kernel_rfl) ?_; clear hK; refine zA6 ?_; refine zA6 (zA1 ?_); refine zA rfl (zA0 (v := zAq ad _) rfl) ?_; refine zA rfl (zD3 (ad := ad) rfl) ?_; refine zA rfl (zA0 (v := .bool _) rfl) ?_; refine zBa (t := _) (d := 29) rfl ?_ ?_
    ·
     intro h28; have g28 := of_decide_eq_true h28; have hz := of_decide_eq_true h28; subst hz; rw [if_neg (by decide)] at hk; refine zAi rfl rfl h28 ?_; refine zA rfl (zA0 (v := .int .u64 _) rfl) ?_; refine zAi rfl rfl h28 ?_; refine zA rfl (zA0 (v := .int .u64 _) rfl) ?_; refine zAi rfl rfl h28 ?_; refine zA rfl (zBi rfl rfl) ?_; refine zA rfl (zAj (v := .bool _) rfl h28 rfl) ?_; refine zA4 ?_; refine zB8 rfl ?_ ?_
     ·
      intro h32; have g32 := of_decide_eq_true h32; rw [if_pos (by omega)] at hk
      cases hk
      refine zA1 ?_; refine zA rfl (zA8 zCq rfl rfl (hE.cellW hs 105 (by decide) rfl)) ?_; refine zA rfl (zA2 (v := zAq ad _) rfl) ?_; refine zA4 ?_; refine zA6 ?_; refine zA6 (zA1 ?_); refine zA rfl (zA0 (v := zAq ad _) rfl) ?_; refine zA rfl (zAt (ad := ad) rfl) ?_; refine zA4 ?_; refine zBb rfl (rfl) ?_; refine zA6 (zA1 ?_); refine zA rfl (zA0 (v := .pointer (some _)) rfl) ?_; refine zA rfl (zA0 (v := .pointer (some _)) rfl) ?_; refine zA rfl (zA7 rfl) ?_; refine zA rfl (zA3 (o' := 1) zC6 rfl sz3 rfl rfl rfl) ?_; refine zA rfl (zA8 uz3 rfl rfl (hs.cellAt 0 rfl rfl)) ?_; refine zA rfl (zA0 (v := zAq ad _) rfl) ?_
      refine zAb rfl en110 (bad_sl hE (k := 105) (by decide) (Mem.closeR0 hl hs)) ?_; clear hs; rintro _ w ⟨rfl, hs⟩; refine zA4 (zA6 (zA1 ?_)); refine zA rfl (zA2 (v := .int .u64 _) rfl) ?_; refine zA4 ?_; refine zAg ?_; refine zBl (v := .int .u64 _) rfl rfl ?_; exact ⟨_, rfl, rfl, hs⟩
     ·
      intro h32; have g32 := of_decide_eq_false h32; rw [if_neg (by omega)] at hk
      cases hk
      refine zAf ?_; refine zA6 ?_; refine zA6 (zA1 ?_); refine zA rfl (zA0 (v := zAq ad _) rfl) ?_; refine zA rfl (zAt (ad := ad) rfl) ?_; refine zA4 ?_; refine zAx rfl (rfl) ?_; refine zAf ?_; refine zA6 ?_; have hq := vgetF_q hv; rw [List.length_drop] at hq; refine zA1 ?_; refine zA rfl (zA0 (v := .pointer (some _)) rfl) ?_; refine zA rfl (zA7 rfl) ?_; refine zA rfl (zA3 (o' := 1) zC6 rfl sz3 rfl rfl rfl) ?_; refine zA rfl (zA8 uz3 rfl rfl (hs.cellAt 0 rfl rfl)) ?_; refine zA rfl (zA0 (v := .int .i64 _) rfl) ?_; refine zA rfl (zAs rfl rfl (c := ((at_ + q : Nat) : Int)) (by omega) (inI (by omega) (by omega))) ?_; refine zA rfl (zA7 rfl) ?_
      refine zA rfl (zA3 (o' := 1) zC6 rfl sz3 rfl rfl rfl) ?_; refine zAr (v := .int .i64 _) hs 0 rfl sz3 rfl rfl rfl rfl ?_; clear hs; intro w hs
      try simp only [List.set_cons_succ, List.set_cons_zero] at hs
      refine zA4 (zA6 (zA1 ?_)); refine zA rfl (zA0 (v := .int .u64 _) rfl) ?_; refine zA rfl (zA2 (v := .int .u64 _) rfl) ?_; refine zA4 ?_; refine zAg ?_; refine zBl (v := .int .u64 _) rfl rfl ?_; exact ⟨_, rfl, rfl, Mem.closeR0 (by omega) hs⟩
    ·
     intro h28; have g28 := of_decide_eq_false h28; have hz := of_decide_eq_false h28; rw [if_pos hz] at hk
     cases hk
     refine zAc rfl rfl rfl h28 ?_; refine zAc rfl rfl rfl h28 ?_; refine zAc rfl rfl rfl h28 ?_; refine zA rfl (zAk (v := .bool _) rfl h28 rfl) ?_; refine zA4 ?_; refine zAx rfl rfl ?_; refine zAf ?_; refine zA6 ?_; refine zA6 (zA1 ?_); refine zA rfl (zA0 (v := zAq ad _) rfl) ?_; refine zA rfl (zAt (ad := ad) rfl) ?_; refine zA4 ?_; refine zBb rfl (by rw [decide_eq_false hz]; rfl) ?_; refine zA6 (zA1 ?_); refine zA rfl (zA0 (v := .pointer (some _)) rfl) ?_; refine zA rfl (zA0 (v := .pointer (some _)) rfl) ?_; refine zA rfl (zA7 rfl) ?_; refine zA rfl (zA3 (o' := 1) zC6 rfl sz3 rfl rfl rfl) ?_; refine zA rfl (zA8 uz3 rfl rfl (hs.cellAt 0 rfl rfl)) ?_
     refine zA rfl (zA0 (v := zAq ad _) rfl) ?_; refine zAb rfl en110 (bad_sl hE (k := k) (by rcases hcode with h | h | h; exact absurd h hz; rw [h]; decide; rw [h]; decide) (Mem.closeR0 hl hs)) ?_; clear hs; rintro _ w ⟨rfl, hs⟩; refine zA4 (zA6 (zA1 ?_)); refine zA rfl (zA2 (v := .int .u64 _) rfl) ?_; refine zA4 ?_; refine zAg ?_; refine zBl (v := .int .u64 _) rfl rfl ?_; exact ⟨_, rfl, rfl, hs⟩
  · obtain ⟨hl, a, c, eb, hc, hs⟩ := hs.openR
    simp only [zEr] at hk; rw [if_pos hc0] at hk
    cases hk
    refine zAo Tryz.func69 rfl rfl ?_
    skip
    refine zA6 (zA1 ?_); refine zA rfl (zA2 (v := .int .u64 _) rfl) ?_; refine zA4 ?_; refine zA6 ?_; refine zA6 (zA1 ?_); refine zA rfl (zA0 (v := .pointer (some _)) rfl) ?_; refine zA rfl (zA7 rfl) ?_; refine zA rfl (zA3 (o' := 2) zC6 rfl sz27 rfl rfl rfl) ?_; refine zA rfl (zA8 zCq rfl rfl (hs.cellAt 0 rfl rfl)) ?_; refine zA rfl (run_neE (ad := ad) rfl) ?_; refine zA4 ?_; refine zBb rfl (by rw [decide_eq_false hc0]; rfl) ?_; refine zA6 (zA1 ?_); refine zA rfl (zA2 (v := .int .u64 _) rfl) ?_; refine zA4 ?_; refine zAg ?_; refine zBl (v := .int .u64 _) rfl rfl ?_; exact ⟨_, rfl, rfl, Mem.closeR hl hs⟩
end Go.Proofs.YtdkgdjnbpjjfmaaGreatDoor
namespace Go.Proofs.YtdkgdjnbpjjfmaaGreatDoor
set_option linter.all false
open Go.RowKit

theorem zag_zig {z : Int} (h : zCp z) : zag (zig z) = z := by
  obtain ⟨h1, h2⟩ := h
  unfold zag zig
  split
  · split <;> omega
  · split <;> omega
def numsF : List Int → List UInt8
  | [] => []
  | z :: l => zB4 (zig z) ++ numsF l
def numsL (l : List Int) : List UInt8 := zB4 l.length ++ numsF l
/-- What was laid is read. -/
theorem vget_put : ∀ {f i n s : Nat} {b rest : List UInt8}, 1 ≤ f → i + f = 10 → n < 2 ^ (7 * f) → n < 2 ^ (64 - 7 * i) → (0 < i → 0 < n) → b.drop i = vputF f n ++ rest → vgetF f i s b = (0, s + n * 2 ^ (7 * i), i + (vputF f n).length)
  | 0, _, _, _, _, _, h, _, _, _, _, _ => by omega
  | f + 1, i, n, s, b, rest, _, hi, hn, hn2, hp, hb => by
    have hat : ∀ c l, b.drop i = c :: l → b[i]? = some c := fun c l h => by
      have := congrArg List.head? h
      simpa [List.head?_drop] using this
    by_cases h : n < 128
    · have e : vputF (f + 1) n = [UInt8.ofNat n] := by unfold vputF; rw [if_pos h]
      rw [e] at hb ⊢; have hc := hat _ _ hb
      have hcn : (UInt8.ofNat n).toNat = n := by rw [UInt8.toNat_ofNat']; omega
      rw [zEz hc, hcn]
      have h9 : ¬ (i = 9 ∧ 1 < n) := fun ⟨e1, e2⟩ => by subst e1; simp at hn2; omega
      rw [if_neg h9, if_neg (by omega), if_neg (by omega), Nat.mod_eq_of_lt h]
      simp
    · have e : vputF (f + 1) n = UInt8.ofNat (n % 128 + 128) :: vputF f (n / 128) := by conv => lhs; unfold vputF; rw [if_neg h]
      rw [e] at hb ⊢; have hc := hat _ _ hb
      have hcn : (UInt8.ofNat (n % 128 + 128)).toNat = n % 128 + 128 := by rw [UInt8.toNat_ofNat']; omega
      have hi9 : i < 9 := by
        refine Classical.byContradiction fun hge => ?_
        have : i = 9 := by omega
        subst this
        simp at hn2
        omega
      rw [zEz hc, hcn, if_neg (by omega), if_pos (by omega)]
      have h7 : 2 ^ (7 * (f + 1)) = 128 * 2 ^ (7 * f) := by rw [Nat.mul_add, Nat.pow_add]; omega
      have hq : n / 128 < 2 ^ (7 * f) := by rw [h7] at hn; exact Nat.div_lt_of_lt_mul hn
      have h8 : 2 ^ (64 - 7 * i) = 128 * 2 ^ (64 - 7 * (i + 1)) := by
        rw [show 64 - 7 * i = 7 + (64 - 7 * (i + 1)) by omega, Nat.pow_add]
      have hq2 : n / 128 < 2 ^ (64 - 7 * (i + 1)) := by rw [h8] at hn2; exact Nat.div_lt_of_lt_mul hn2
      have hd : b.drop (i + 1) = vputF f (n / 128) ++ rest := by
        have := congrArg (List.drop 1) hb
        simpa [List.drop_drop] using this
      have hf : 1 ≤ f := by
        refine Classical.byContradiction fun hge => ?_
        have : f = 0 := by omega
        subst this
        simp at hq
        omega
      rw [vget_put hf (by omega) hq hq2 (fun _ => by omega) hd]
      have h9 : 2 ^ (7 * (i + 1)) = 128 * 2 ^ (7 * i) := by rw [Nat.mul_add, Nat.pow_add]; omega
      have hm : (n % 128 + 128) % 128 = n % 128 := by omega
      rw [hm, h9, List.length_cons]
      have hn3 : n % 128 * 2 ^ (7 * i) + n / 128 * (128 * 2 ^ (7 * i)) = n * 2 ^ (7 * i) := by
        have := Nat.mod_add_div n 128
        calc n % 128 * 2 ^ (7 * i) + n / 128 * (128 * 2 ^ (7 * i)) = (n % 128 + 128 * (n / 128)) * 2 ^ (7 * i) := by rw [Nat.add_mul, Nat.mul_comm 128 (n / 128), Nat.mul_assoc]
          _ = n * 2 ^ (7 * i) := by rw [this]
      simp only [Prod.mk.injEq, true_and]
      constructor
      · omega
      · omega
theorem vget_app {n : Nat} (h : n < 18446744073709551616) (rest : List UInt8) : vget (zB4 n ++ rest) = (0, n, (zB4 n).length) := by
  have := vget_put (f := 10) (i := 0) (n := n) (s := 0) (b := zB4 n ++ rest) (rest := rest) (by decide) rfl (by show n < 2 ^ 70; omega) (by show n < 2 ^ 64; omega) (fun h => by omega) rfl
  simpa [vget, zB4] using this
/-- Numbers are read, one behind the other. -/
def rloop : Nat → List UInt8 → Nat × Nat → List Int → List Int × Nat × Nat
  | 0, _, st, out => (out, st)
  | f + 1, b, st, out => if st.2 ≠ 0 then (out, st) else rloop f b (vintS b st).2 (out ++ [(vintS b st).1])
/-- The error's number, the numbers. -/
def rnums (b : List UInt8) : Nat × List Int :=
  let r := rloop (zEr 4096 b (0, 0)).1 b (zEr 4096 b (0, 0)).2 []
  if r.2.2 ≠ 0 then (r.2.2, []) else if r.2.1 < b.length then (104, []) else (0, r.1)
end Go.Proofs.YtdkgdjnbpjjfmaaGreatDoor
namespace Go.Proofs.YtdkgdjnbpjjfmaaGreatDoor
set_option linter.all false
open Go.RowKit
variable {P : Program} {n : Nat} {ops : Array Oper} {rest : List Oper} {K : Env → World → Prop} {ρ : Env} {g w : World} {L : List HP} {dst : Option Tmp} {ty : TypeId} {pos : String} {aft : Array Edge}

/-! ### rows that can be read -/
/-- Rows of k cells each lie there. -/
def RowsR (w : World) (k : Nat) (v : Value) (rows : List (List Value)) : Prop :=
  ∃ a n c, v = .slice a n c ∧ n = rows.length ∧ n ≤ c ∧ (rows = [] ∨ ∃ b off, a = some ⟨b, off, none⟩ ∧ b < w.heap.size ∧ ∀ q row, rows[q]? = some row → ∀ j v, row[j]? = some v → w.cell? ⟨b, off + q * k + j, none⟩ = some v)
theorem RowsR.len {k n c : Nat} {a : Option Addr} {rows : List (List Value)} (h : RowsR w k (.slice a n c) rows) : n = rows.length := by
  obtain ⟨a', n', c', hv, hn, _, _⟩ := h
  cases hv
  exact hn
/-- The q-th of them, in a world that has the ground. -/
theorem RowsR.at {k n c : Nat} {a : Option Addr} {rows : List (List Value)} (h : RowsR g k (.slice a n c) rows) (hs : Mem g w L) {q : Nat} {row : List Value} (hq : rows[q]? = some row) : ∃ b off, a = some ⟨b, off, none⟩ ∧ ∀ j v, row[j]? = some v → w.cell? ⟨b, off + q * k + j, none⟩ = some v := by
  obtain ⟨a', n', c', hv, hn, hnc, h⟩ := h
  cases hv
  rcases h with rfl | ⟨b, off, rfl, hb, h⟩
  · simp at hq
  · exact ⟨b, off, rfl, fun j v hj => hs.cellOld (h q row hq j v hj)⟩
theorem RowsR.stay {k : Nat} {v : Value} {rows : List (List Value)} (h : RowsR g k v rows) (hs : Mem g w L) : RowsR w k v rows := by
  obtain ⟨a', n', c', hv, hn, hnc, h⟩ := h; refine ⟨a', n', c', hv, hn, hnc, ?_⟩
  rcases h with h | ⟨b, off, h1, hb, h⟩
  · exact .inl h
  · exact .inr ⟨b, off, h1, Nat.lt_of_lt_of_le hb hs.size, fun q row hq j v hj => hs.cellOld (h q row hq j v hj)⟩
/-- Rows that can be read wherever the chunks hold. -/
def RdK (g : World) (L : List HP) (k : Nat) (v : Value) (rows : List (List Value)) : Prop := Ens g L fun w => RowsR w k v rows
theorem RowsR.rd {k : Nat} {v : Value} {rows : List (List Value)} (h : RowsR g k v rows) (L : List HP) : RdK g L k v rows := fun _ hs => h.stay hs
theorem RdK.cons {k : Nat} {v : Value} {rows : List (List Value)} {C : HP} (h : RdK g L k v rows) : RdK g (C :: L) k v rows := fun w hs => h w hs.tail
theorem RdK.nil {k : Nat} : RdK g L k (.slice none 0 0) [] := fun _ _ => ⟨none, 0, 0, rfl, rfl, Nat.le_refl _, .inl rfl⟩
theorem RdK.cap {k n c : Nat} {a : Option Addr} {rows : List (List Value)} (h : RdK g L k (.slice a n c) rows) (hs : Mem g w L) : n ≤ c := by
  obtain ⟨a', n', c', hv, hn, hnc, _⟩ := h w hs
  cases hv
  exact hnc
theorem RdK.len {k n c : Nat} {a : Option Addr} {rows : List (List Value)} (h : RdK g L k (.slice a n c) rows) (hs : Mem g w L) : n = rows.length := (h w hs).len
theorem RdK.at {k n c : Nat} {a : Option Addr} {rows : List (List Value)} (h : RdK g L k (.slice a n c) rows) (hs : Mem g w L) (h0 : 0 < rows.length) : ∃ b off, a = some ⟨b, off, none⟩ := by
  obtain ⟨a', n', c', hv, hn, hnc, h⟩ := h w hs
  cases hv
  rcases h with rfl | ⟨b, off, rfl, hb, h⟩
  · simp at h0
  · exact ⟨b, off, rfl⟩
theorem RdK.cell {k n c b off : Nat} {rows : List (List Value)} (h : RdK g L k (.slice (some ⟨b, off, none⟩) n c) rows) (hs : Mem g w L) {q : Nat} {row : List Value} (hq : rows[q]? = some row) {j : Nat} {v : Value} (hj : row[j]? = some v) : w.cell? ⟨b, off + q * k + j, none⟩ = some v := by
  obtain ⟨a', n', c', hv, hn, hnc, h⟩ := h w hs; simp only [Value.slice.injEq] at hv; obtain ⟨rfl, rfl, rfl⟩ := hv
  rcases h with rfl | ⟨b', off', he, hb, h⟩
  · simp at hq
  · simp only [Option.some.injEq, Addr.mk.injEq] at he
    obtain ⟨rfl, rfl, _⟩ := he; exact h q row hq j v hj
theorem rowsV.rows {k : Nat} {v : Value} {rows : List (List Value)} (h : rowsV w k v rows) : RowsR w k v rows := by
  obtain ⟨a, n, c, hv, hn, hc, ha, hr, h⟩ := h; refine ⟨a, n, c, hv, hn, hc, ?_⟩
  rcases Nat.eq_zero_or_pos rows.length with h0 | h0
  · exact .inl (List.eq_nil_of_length_eq_zero h0)
  · rcases h with h | ⟨b, off, cs, E, rfl, hb, hz, hcs⟩
    · omega
    · refine .inr ⟨b, off, rfl, ha.2 b (by rw [hv]; rfl), fun q row hq j v hj => ?_⟩
      obtain ⟨hqlt, _⟩ := List.getElem?_eq_some_iff.1 hq; obtain ⟨hjlt, _⟩ := List.getElem?_eq_some_iff.1 hj; have hrl := (hr row (List.mem_of_getElem? hq)).1; have hle : (q + 1) * k ≤ n * k := Nat.mul_le_mul_right _ (by omega); have hq1 : (q + 1) * k = q * k + k := Nat.succ_mul _ _; rw [Nat.add_assoc]; refine zDp hb ?_; rw [hcs (q * k + j) (by omega)]; exact flat_at (fun r hm => (hr r hm).1) hq hj
theorem RdK.row {k : Nat} {v : Value} {rows : List (List Value)} (i : Nat) (hi : L[i]? = some (zFp k v rows)) : RdK g L k v rows := Ens.of i hi fun _ _ h => h.1.rows
/-- The flat cells of rows that can be read. -/
theorem flat_cell {k : Nat} (hk : 0 < k) : ∀ {rows : List (List Value)}, (∀ r ∈ rows, r.length = k) → ∀ {i : Nat} {v : Value}, rows.flatten[i]? = some v → ∃ row, rows[i / k]? = some row ∧ row[i % k]? = some v
  | [], _, i, v, h => by simp at h
  | r :: rows, hr, i, v, h => by
    have hr0 := hr r (List.mem_cons_self ..); rw [List.flatten_cons] at h
    by_cases hi : i < k
    · rw [List.getElem?_append_left (by omega)] at h
      exact ⟨r, by rw [Nat.div_eq_of_lt hi]; rfl, by rw [Nat.mod_eq_of_lt hi]; exact h⟩
    · rw [List.getElem?_append_right (by omega), hr0] at h
      obtain ⟨row, h1, h2⟩ := flat_cell hk (fun x hx => hr x (List.mem_cons_of_mem _ hx)) h
      have hi' : k ≤ i := by omega
      refine ⟨row, ?_, ?_⟩
      · rw [Nat.div_eq_sub_div hk hi', List.getElem?_cons_succ]; exact h1
      · rw [Nat.mod_eq_sub_mod hi']; exact h2
theorem RowsR.src {w : World} {tx e : TypeId} {k : Nat} {v : Value} {rows : List (List Value)} (htx : P.underlying tx = some (.slice e)) (hk : 0 < k) (h : RowsR w k v rows) (hr : ∀ r ∈ rows, r.length = k ∧ ∀ u ∈ r, u.oneCell' = true) : Src P k tx v rows.length rows.flatten w := by
  obtain ⟨a, n, c, rfl, hn, hnc, h⟩ := h; subst hn
  have h1 : ∀ u ∈ rows.flatten, u.oneCell' = true := fun u hu => by
    obtain ⟨r, hr', hu'⟩ := List.mem_flatten.1 hu; exact (hr r hr').2 u hu'
  rcases h with rfl | ⟨b, off, rfl, hb, h⟩
  · cases a with
    | none => exact Src.ofNil w htx _
    | some a => exact Src.ofSlice w htx a 0 c [] (by simp) (fun q u hq => by simp at hq) (fun u hu => by simp at hu)
  · refine Src.ofSlice w htx ⟨b, off, none⟩ rows.length c rows.flatten (zGb hr) (fun q u hq => ?_) h1
    obtain ⟨row, h2, h3⟩ := flat_cell hk (fun r hm => (hr r hm).1) hq; have := h _ row h2 _ u h3; rw [Addr.add_lit]; rw [Nat.add_assoc, Nat.div_add_mod' q k] at this; exact this

theorem guard_sl {op : BinOp} {t : TypeId} {x y : Operand} {a : Option Addr} {m c : Nat} {v : Value} : (eqGuard op t x y (.slice a m c) v).run P w = .ok () w := by cases op <;> rfl
theorem run_eqsn {x y : Operand} {t e u : TypeId} {a : Option Addr} {m c : Nat} (ht : P.underlying t = some (.slice e)) (hx : ev ρ x = .slice a m c) (hy : ev ρ y = .slice none 0 0) : (execOp (ev ρ) ⟨dst, .binOp .eql t x y u, ty, pos, aft, none⟩).run P w = .ok (.value (.bool a.isNone)) w := by
  simp only [execOp, hx, hy, Sem.run_bind, guard_sl, Lib.run_eql_slice_nil w t e a m c 0 0 ht, Result.andThen_ok, Sem.run_pure]
theorem run_sliceToK {x z : Operand} {t e : TypeId} {a : Option Addr} {len c hi q : Nat} {k2 : IntKind} {j : Int} (ht : P.underlying t = some (.slice e)) (hsz : (P.info? e).map (·.size) = some q) (hx : ev ρ x = .slice a len c) (hz : ev ρ z = .int k2 j) (hj : j = hi) (h2 : hi ≤ c) (ha : c = 0 ∨ ∃ b off, a = some ⟨b, off, none⟩) :
    (execOp (ev ρ) ⟨dst, .slice t x none (some z) none, ty, pos, aft, none⟩).run P w = .ok (.value (.slice a hi c)) w := by
  obtain ⟨inf, hinf, hs⟩ := Option.map_eq_some_iff.1 hsz
  have h0 : (if c = 0 then a else a.map (·.add (0 * q))) = a := by
    rcases ha with h | ⟨b, off, rfl⟩
    · rw [if_pos h]
    · split
      · rfl
      · simp [Addr.add_lit]
  simp only [execOp, Option.map_some, Option.map_none, hx, hz, Instr.sliceAt, Sem.run_bind, run_underlying ht, Result.andThen_ok, Instr.slice, Instr.sliceBounds, Option.isSome_none, if_true, Bool.false_eq_true, if_false, zE7 hj h2, Sem.run_pure, sizeOf, typeInfo, program, Sem.run, hinf, hs, Nat.sub_zero, h0]
/-! ### append of many rows -/
theorem run_append_rows {w : World} {t tx ty e : TypeId} {i : TypeInfo} {z : Value} {k : Nat} (ht : P.underlying t = some (.slice e)) (hi : P.info? e = some i) (hz : i.zero = some z) (hk : i.size = k) (hzc : z.cells.size = k)
    {v x : Value} {rows news : List (List Value)} (hn0 : 0 < news.length) (hown : rowsV w k v rows) (hl : ∀ r ∈ news, r.length = k ∧ ∀ u ∈ r, u.oneCell' = true) (hsrc : Src P k tx x news.length news.flatten w) (hb : (rows.length + news.length) * i.bytes ≤ 140737488355328) (hlen : rows.length + news.length ≤ 9223372036854775807) :
    ∃ a c w', (Builtin.append_ #[t, tx] ty #[v, x]).run P w = .ok (.slice a (rows.length + news.length) c) w' ∧ rowsV w' k (.slice a (rows.length + news.length) c) (rows ++ news) ∧ Keeps (fun k => blk v = some k) w w' ∧ (blk (.slice a (rows.length + news.length) c) = blk v ∨ blk (.slice a (rows.length + news.length) c) = some w.heap.size) := by
  obtain ⟨a, n, c, rfl, hn, hc, ha, hr, h⟩ := hown; subst hn hk; have hfl := zGb hr; have hfn := zGb hl
  have hr2 : ∀ r ∈ rows ++ news, r.length = i.size ∧ ∀ u ∈ r, u.oneCell' = true := fun r hm => by
    rcases List.mem_append.1 hm with hm | hm
    · exact hr r hm
    · exact hl r hm
  have hmul : (rows.length + news.length) * i.size = rows.length * i.size + news.length * i.size := Nat.add_mul _ _ _
  by_cases hroom : rows.length + news.length ≤ c
  · rcases h with h | ⟨b, off, cs, E, rfl, hb', hcap, hcs⟩
    · omega
    · have hcm : (rows.length + news.length) * i.size ≤ c * i.size := Nat.mul_le_mul_right _ hroom
      obtain ⟨cs', h2, hsz, hlo, hmid, _, hk, hz2⟩ := zEu news.flatten (off + rows.length * i.size) w cs hb' (by omega)
      have hr' := run_append_room_src (P := P) w t tx ty e i ht hi b off rows.length c x news.length news.flatten hsrc hroom
        (fun j hj => by rw [zDp hb' (Array.getElem?_eq_getElem (by omega))]; rfl) (fun j _ => free_at hb')
      refine ⟨_, _, _, hr', ⟨_, _, _, rfl, by simp, hroom, ⟨(fun h => by cases h), fun b' hb' => by rw [hz2]; exact ha.2 b' hb'⟩, hr2, .inr ⟨b, off, cs', E, rfl, h2, by omega, fun j hj => ?_⟩⟩, hk.mono (fun k _ hk => by simp [blk, hk]), .inl rfl⟩; rw [List.flatten_append]
      by_cases hj' : j < rows.length * i.size
      · rw [hlo (off + j) (by omega), hcs j hj', List.getElem?_append_left (by omega)]
      · have := hmid (j - rows.length * i.size) (by omega)
        rw [show off + rows.length * i.size + (j - rows.length * i.size) = off + j by omega] at this; rw [this, List.getElem?_append_right (by omega), hfl]
  · have hold : (Builtin.firstCells i.size rows.length (.slice a rows.length c)).run P w.drew = .ok rows.flatten.toArray w.drew := by
      cases a with
      | none =>
        have hc0 := ha.1 rfl; have : rows = [] := List.eq_nil_of_length_eq_zero (by omega); subst this; exact run_firstCells_none w.drew i.size 0 0 c
      | some a =>
        refine run_firstCells_some w.drew i.size rows.length a rows.length c rows.flatten (by rw [hfl]) (fun j u hj => ?_); have hjl := (List.getElem?_eq_some_iff.1 hj).1
        rcases h with h | ⟨b, off, cs, E, ha', hb, _, hcs⟩
        · have : rows.length = 0 := by omega
          rw [hfl, this] at hjl
          omega
        · obtain rfl := Option.some.inj ha'
          rw [Addr.add_lit]; exact zDp hb (by rw [hcs j (by omega), hj])
    have hr' := run_append_grow_src (P := P) w t tx ty e i z ht hi hz a rows.length c rows.flatten hold x news.length news.flatten hsrc (by omega) (by omega) (growslice_fits (by omega) hb); have hge := grownCap_ge w (rows.length + news.length) c e; refine ⟨_, _, _, hr', ⟨_, _, _, rfl, by simp, hge, ⟨(fun h => by cases h), fun b' hb' => by cases hb'; simp⟩, hr2, .inr ⟨_, 0, _, e, rfl, heap_alloc_new _ _, ?_, fun j hj => ?_⟩⟩, ((Keeps.refl _ w).drew).alloc _, .inr rfl⟩
    · simp only [Array.size_append, List.size_toArray, List.length_append, size_zeroCells, hzc, hfl, hfn, Nat.zero_add]
      have e1 : (grownCap w (rows.length + news.length) c e) * i.size = (rows.length + news.length) * i.size + (grownCap w (rows.length + news.length) c e - (rows.length + news.length)) * i.size := by rw [← Nat.add_mul]; congr 1; omega
      omega
    · rw [Nat.zero_add, Array.getElem?_append_left (by simp only [List.size_toArray, List.length_append, hfl, hfn]; omega), List.getElem?_toArray]
      simp
theorem lw_appendRows (hs : Mem g w L) (hd : okd n dst = true) (i : Nat) {x y : Operand} {t tx e : TypeId} {v xv : Value} {rows news : List (List Value)} {k : Nat} (hi : L[i]? = some (zFp k v rows)) (hn0 : 0 < news.length) {z : Value} {by_ : Nat}
    (ht : P.underlying t = some (.slice e)) (hsz : (P.info? e).map (fun i => (i.zero, i.size, i.bytes)) = some (some z, k, by_)) (hzc : z.cells.size = k) (hl : ∀ r ∈ news, r.length = k ∧ ∀ u ∈ r, u.oneCell' = true)
    (hx : ev ρ x = v) (hy : ev ρ y = xv) (hsrc : Src P k tx xv news.length news.flatten w) (hb : (rows.length + news.length) * by_ ≤ 140737488355328) (hlen : rows.length + news.length ≤ 9223372036854775807)
    (h : ∀ a c w', Mem g w' (L.set i (zFp k (.slice a (rows.length + news.length) c) (rows ++ news))) → lw P n ops rest K (updo ρ dst (.slice a (rows.length + news.length) c)) w') :
    lw P n ops (⟨dst, .call { callee := .builtin .append, args := #[x, y], argTypes := #[t, tx] }, ty, pos, aft, none⟩ :: rest) K ρ w := by
  obtain ⟨inf, hinf, hz⟩ := Option.map_eq_some_iff.1 hsz; simp only [Prod.mk.injEq] at hz; obtain ⟨F, ⟨g1, g2⟩, g3⟩ := hs.turn hi; obtain ⟨a, c, w', hrun, k1, k2, k3⟩ := run_append_rows (ty := ty) ht hinf hz.1 hz.2.1 hzc hn0 g1 hl hsrc (by rw [hz.2.2]; exact hb) hlen; refine zA hd (v := .slice a (rows.length + news.length) c) (w' := w') ?_ (h a c w' (g3 w' _ (fun x => blk (.slice a (rows.length + news.length) c) = some x) ⟨k1, fun _ => Iff.rfl⟩ (fun b hb => ?_) (k2.mono fun x _ e => (g2 x).2 e)))
  · subst hx hy
    simp only [execOp, resolve, invoke, builtin]
    have hmm : (#[x, y] : Array Operand).map (ev ρ) = #[ev ρ x, ev ρ y] := by simp
    simp only [hmm, Sem.run_bind, Sem.run_pure, hrun, Result.andThen_ok]
  · rcases k3 with e | e
    · exact .inl ((g2 b).2 (e ▸ hb))
    · rw [e] at hb; cases hb; exact .inr (Nat.le_refl _)
/-- An append of nothing. -/
theorem lw_appendRows0 (hd : okd n dst = true) {x y : Operand} {t tx e : TypeId} {b : Nat} {xv : Value} {k : Nat} {z : Value} {by_ : Nat} (ht : P.underlying t = some (.slice e)) (hsz : (P.info? e).map (fun i => (i.zero, i.size, i.bytes)) = some (some z, k, by_))
    (hx : ev ρ x = .slice (some ⟨b, 0, none⟩) 0 0) (hy : ev ρ y = xv) (hsrc : Src P k tx xv 0 [] w) (h : lw P n ops rest K (updo ρ dst (.slice (some ⟨b, 0, none⟩) 0 0)) w) :
    lw P n ops (⟨dst, .call { callee := .builtin .append, args := #[x, y], argTypes := #[t, tx] }, ty, pos, aft, none⟩ :: rest) K ρ w := by
  obtain ⟨inf, hinf, hz⟩ := Option.map_eq_some_iff.1 hsz; simp only [Prod.mk.injEq] at hz; obtain ⟨hz1, rfl, _⟩ := hz; refine zA hd (v := .slice (some ⟨b, 0, none⟩) 0 0) (w' := w) ?_ h; subst hy; have hc0 := hsrc.cells; have hl0 := hsrc.len
  have hr : (Builtin.append_ #[t, tx] ty #[.slice (some ⟨b, 0, none⟩) 0 0, ev ρ y]).run P w = .ok (.slice (some ⟨b, 0, none⟩) 0 0) w := by
    rcases hsrc.kind with ⟨e', hk⟩ | hk <;> simp [Builtin.append_, run_underlying ht, run_underlying hk, sizeOf, typeInfo, hinf, hl0, hc0, storeCells]
  simp only [execOp, resolve, invoke, builtin]
  have hmm : (#[x, y] : Array Operand).map (ev ρ) = #[ev ρ x, ev ρ y] := by simp
  simp only [hmm, hx, Sem.run_bind, Sem.run_pure, hr, Result.andThen_ok]
/-- An empty block is an empty slice of one's own. -/
theorem Mem.noRows (hs : Mem g w L) (i : Nat) {b k : Nat} {T : TypeId} (hi : L[i]? = some (cells b [] T)) : Mem g w (L.set i (zFp k (.slice (some ⟨b, 0, none⟩) 0 0) [])) := by
  obtain ⟨F, ⟨g1, g2⟩, g3⟩ := hs.turn hi; have hb : b < w.heap.size := (Array.getElem?_eq_some_iff.1 g1).1; exact g3 w _ F ⟨⟨_, 0, 0, rfl, rfl, Nat.le_refl _, ⟨fun h => rfl, fun x hx => by cases hx; exact hb⟩, fun r h => by simp at h, .inl rfl⟩, fun x => by rw [g2 x]; simp [blk, eq_comm]⟩ (fun _ h => .inl h) (Keeps.refl _ _)
/-- A literal of no structs. -/
theorem zFg (hs : Mem g w L) (hd : okd n dst = true) {t e : TypeId} {z : Value} {k by_ : Nat} (ht : P.underlying t = some (.slice e)) (hsz : (P.info? e).map (fun i => (i.zero, i.size, i.bytes)) = some (some z, k, by_))
    (h : ∀ b w', Mem g w' (zFp k (.slice (some ⟨b, 0, none⟩) 0 0) [] :: L) → lw P n ops rest K (updo ρ dst (.slice (some ⟨b, 0, none⟩) 0 0)) w') :
    lw P n ops (⟨dst, .buildSlice t 0 #[], ty, pos, aft, none⟩ :: rest) K ρ w := by
  obtain ⟨inf, hinf, hz⟩ := Option.map_eq_some_iff.1 hsz; simp only [Prod.mk.injEq] at hz; refine zA hd (v := .slice (some ⟨w.heap.size, 0, none⟩) 0 0) (w' := w.alloc (.cells #[] e)) ?_ (h _ _ ((hs.new [] e).noRows 0 rfl))
  have hr : (Instr.buildSlice t 0 #[]).run P w = .ok (.slice (some ⟨w.heap.size, 0, none⟩) 0 0) (w.alloc (.cells #[] e)) := by simp [Instr.buildSlice, run_underlying ht, sizeOf, typeInfo, zeroValue, hinf, newRow, Instr.fill, show Array.range 0 = #[] from by simp]
  simp only [execOp, Array.map_empty, Sem.run_bind, Sem.run_pure]
  first
  | simp only [hr, Result.andThen_ok, Sem.run_pure]
  | (have e1 : (fun (x : Nat × Operand) => match x with | (i, x) => (i, ev ρ x)) = fun p => (p.1, ev ρ p.2) := by funext ⟨_, _⟩; rfl
     simp [hr, Result.andThen_ok])
/-- make of structs, with room. -/
theorem lw_makeRows (hs : Mem g w L) (hd : okd n dst = true) {x y : Operand} {t e : TypeId} {c k : Nat} {kl kc : IntKind} {j : Int} {z : Value} {by_ : Nat} (ht : P.underlying t = some (.slice e)) (hsz : (P.info? e).map (fun i => (i.zero, i.size, i.bytes)) = some (some z, k, by_))
    (hx : ev ρ x = .int kl 0) (hy : ev ρ y = .int kc j) (hj : j = c) (hb : by_ * c ≤ 281474976710656) (h63 : c ≤ 9223372036854775807)
    (h : ∀ b w', Mem g w' (zFp k (.slice (some ⟨b, 0, none⟩) 0 c) [] :: L) → lw P n ops rest K (updo ρ dst (.slice (some ⟨b, 0, none⟩) 0 c)) w') :
    lw P n ops (⟨dst, .makeSlice t x y, ty, pos, aft, none⟩ :: rest) K ρ w := by
  subst hj; obtain ⟨inf, hinf, hz⟩ := Option.map_eq_some_iff.1 hsz; simp only [Prod.mk.injEq] at hz; obtain ⟨hz1, hz2, hz3⟩ := hz; have hr := run_make (P := P) w t e inf z ht hinf hz1 kl kc 0 c (by omega) (by omega) (by rw [hz3]; omega) (by omega); simp only [Int.toNat_natCast, hz2, Int.toNat_zero] at hr; refine zA hd (v := .slice (some ⟨w.heap.size, 0, none⟩) 0 c) (w' := w.alloc (.cells (madeCells z.cells (c * k)) e)) ?_ (h _ _ (hs.add (F' := fun x => blk (.slice (some ⟨w.heap.size, 0, none⟩) 0 c) = some x) ⟨?_, fun _ => Iff.rfl⟩ (fun b hb => ?_) ((Keeps.refl _ _).alloc _)))
  · simp only [execOp, hx, hy, Sem.run_bind, hr, Result.andThen_ok, Sem.run_pure]
    first | done | rfl | simp
  · refine ⟨_, _, _, rfl, rfl, Nat.zero_le _, ⟨(fun h => by cases h), fun x hx => ?_⟩, (fun r h => by simp at h), .inr ⟨w.heap.size, 0, madeCells z.cells (c * k), e, rfl, World.alloc_heap_new w _, by rw [size_madeCells]; omega, fun i hi => by omega⟩⟩
    simp only [blk, Option.some.injEq] at hx; subst hx; exact lt_of_block (World.alloc_heap_new w _)
  · simp only [blk, Option.some.injEq] at hb
    omega
/-- A literal of two structs. -/
theorem lw_build2 (hs : Mem g w L) (hd : okd n dst = true) {t e : TypeId} {x y : Operand} {z : Value} {k : Nat} {r1 r2 : List Value} (ht : P.underlying t = some (.slice e)) (hsz : (P.info? e).map (fun i => (i.zero, i.size)) = some (some z, k)) (hx : ev ρ x = .agg r1.toArray) (hy : ev ρ y = .agg r2.toArray)
    (hf : Instr.fill (fun i => some (i * k, k)) ((Array.range (2 * k)).map (z.cells[· % z.cells.size]!)) [(0, .agg r1.toArray), (1, .agg r2.toArray)] = some (r1 ++ r2).toArray) (hk : 0 < k) (hk2 : k ≤ 1000)
    (h : ∀ b w', Mem g w' (cells b (r1 ++ r2) e :: L) → lw P n ops rest K (updo ρ dst (.slice (some ⟨b, 0, none⟩) 2 2)) w') :
    lw P n ops (⟨dst, .buildSlice t 2 #[(0, x), (1, y)], ty, pos, aft, none⟩ :: rest) K ρ w := by
  obtain ⟨inf, hinf, hz⟩ := Option.map_eq_some_iff.1 hsz; simp only [Prod.mk.injEq] at hz; refine zA hd (v := .slice (some ⟨w.heap.size, 0, none⟩) 2 2) (w' := w.alloc (.cells (r1 ++ r2).toArray e)) ?_ (h _ _ (hs.new (r1 ++ r2) e)); have hr := run_buildSlice (P := P) w t e 2 #[(0, .agg r1.toArray), (1, .agg r2.toArray)] (r1 ++ r2).toArray inf z ht hinf hz.1 (by rw [hz.2]; omega) (by rw [hz.2]; omega) (by rw [hz.2]; exact hf)
  have hmm : (#[(0, x), (1, y)] : Array (Nat × Operand)).map (fun (p : Nat × Operand) => (p.1, ev ρ p.2)) = #[(0, ev ρ x), (1, ev ρ y)] := by simp
  have e1 : (fun (x : Nat × Operand) => match x with | (i, x) => (i, ev ρ x)) = fun p => (p.1, ev ρ p.2) := by funext ⟨_, _⟩; rfl
  simp only [execOp, e1, hmm, hx, hy, Sem.run_bind, hr, Result.andThen_ok, Sem.run_pure]
/-- A block of cells as rows. -/
theorem Mem.asRows (hs : Mem g w L) (i : Nat) {b k m : Nat} {cs : List Value} {T : TypeId} {rows : List (List Value)} (hi : L[i]? = some (cells b cs T)) (hf : rows.flatten = cs) (hm : m = rows.length) (hr : ∀ r ∈ rows, r.length = k ∧ ∀ u ∈ r, u.oneCell' = true) : Mem g w (L.set i (zFp k (.slice (some ⟨b, 0, none⟩) m m) rows)) := by
  subst hm; obtain ⟨F, ⟨g1, g2⟩, g3⟩ := hs.turn hi; have hb : b < w.heap.size := (Array.getElem?_eq_some_iff.1 g1).1; have hl := zGb hr; refine g3 w _ F ⟨⟨_, rows.length, rows.length, rfl, rfl, Nat.le_refl _, ⟨fun h => (by cases h), fun x hx => by cases hx; exact hb⟩, hr, .inr ⟨b, 0, cs.toArray, T, rfl, g1, by simp only [List.size_toArray, ← hf, hl]; omega, fun j hj => by rw [Nat.zero_add, hf]; simp⟩⟩, fun x => by rw [g2 x]; simp [blk, eq_comm]⟩ (fun _ h => .inl h) (Keeps.refl _ _)
/-- One struct's block as a slice of one. -/
theorem RdK.one {b k : Nat} {cs : List Value} {T : TypeId} (i : Nat) (hi : L[i]? = some (cells b cs T)) (hk : cs.length = k) : RdK g L k (.slice (some ⟨b, 0, none⟩) 1 1) [cs] := fun w hs => by
  obtain ⟨F, h, _⟩ := hs.read hi; refine ⟨_, 1, 1, rfl, rfl, Nat.le_refl _, .inr ⟨b, 0, rfl, lt_of_block h, fun q row hq j v hj => ?_⟩⟩
  cases q with
  | zero => simp only [List.getElem?_cons_zero, Option.some.injEq] at hq; subst hq; simp only [Nat.zero_mul, Nat.zero_add]; exact hs.cellAt i hi hj
  | succ q => simp at hq
end Go.Proofs.YtdkgdjnbpjjfmaaGreatDoor
namespace Go.Proofs.YtdkgdjnbpjjfmaaGreatDoor
set_option linter.all false

abbrev Pr := Int × Int
abbrev Ob := ByteArray × Int × Nat
structure Mf where
  id : Int
  base : Int
  fin : Int
  time : Int
  eps : List Pr
  obs : List Ob
deriving DecidableEq
def Mf.z : Mf := ⟨0, 0, 0, 0, [], []⟩
def prL (p : Pr) : List Value := [.int .i64 p.1, .int .i64 p.2]
def obL (o : Ob) : List Value := [.string o.1, .int .i64 o.2.1, .int .u32 o.2.2]
abbrev SA := Option Addr × Nat
def mfL (x : Mf) (e o : SA) : List Value := [.int .i64 x.id, .int .i64 x.base, .int .i64 x.fin, .int .i64 x.time, .slice e.1 x.eps.length e.2, .slice o.1 x.obs.length o.2]
/-! ### what is amiss: the error's number, its place -/
abbrev Flt := Nat × Option Nat
def zE9 (n : Int) : Bool := decide (0 ≤ n) && decide (n ≤ 1099511627776)
def rightE (n : Int) : Bool := decide (0 ≤ n) && decide (n ≤ 1073741824)
def rightT (n : Int) : Bool := decide (-1099511627776 ≤ n) && decide (n ≤ 1099511627776)
def prOk (p : Pr) : Bool := rightE p.1 && zE9 p.2
/-- The i-th pair stands behind the one ahead. -/
def risAt (l : List Pr) (i : Nat) : Bool := decide ((l.getD (i - 1) (0, 0)).1 < (l.getD i (0, 0)).1) && decide ((l.getD (i - 1) (0, 0)).2 < (l.getD i (0, 0)).2)
def ris (l : List Pr) : Bool := (List.range l.length).all fun i => i == 0 || risAt l i
theorem ris_iff {l : List Pr} : ris l = true ↔ ∀ i, 1 ≤ i → i < l.length → risAt l i = true := by
  simp only [ris, List.all_eq_true, List.mem_range, Bool.or_eq_true, beq_iff_eq]
  constructor
  · intro h i h1 h2
    rcases h i h2 with h | h
    · omega
    · exact h
  · intro h i h2
    rcases Nat.eq_zero_or_pos i with h0 | h0
    · exact .inl h0
    · exact .inr (h i h0 h2)
theorem ris_no {l : List Pr} {i : Nat} (h1 : 1 ≤ i) (h2 : i < l.length) (h : risAt l i = false) : ris l = false := by
  cases hr : ris l with
  | false => rfl
  | true => rw [ris_iff.1 hr i h1 h2] at h; cases h
def epF (l : List Pr) : Nat := if 256 < l.length then 104 else if l.all prOk = false then 105 else if ris l = false then 103 else 0
def zD7 (o : Ob) : Nat := if zCa o.1.data.toList = false then 106 else if o.2.1 < 0 ∨ 1073741824 < o.2.1 then 105 else 0
def obF (l : List Ob) : Flt :=
  if l.length < 1 ∨ 8 < l.length then (104, none) else
  match l.findIdx? fun o => zD7 o != 0 with
  | some i => (zD7 (l.getD i (ByteArray.empty, 0, 0)), some i)
  | none => if (l.map Prod.fst).Nodup then (0, none) else (103, none)
theorem obF_bad {l : List Ob} {i : Nat} {o : Ob} (h0 : ¬ (l.length < 1 ∨ 8 < l.length)) (ho : l[i]? = some o) (hb : zD7 o ≠ 0) (h : ∀ j, j < i → ∀ u, l[j]? = some u → zD7 u = 0) : obF l = (zD7 o, some i) := by
  obtain ⟨hi, he⟩ := List.getElem?_eq_some_iff.1 ho
  have : (l.findIdx? fun o => zD7 o != 0) = some i := by
    rw [List.findIdx?_eq_some_iff_getElem]; refine ⟨hi, by rw [he]; simpa using hb, fun j hj => ?_⟩; have := h j hj _ (List.getElem?_eq_getElem (by omega))
    simp [this]
  simp only [obF, if_neg h0, this]; rw [List.getD_eq_getElem?_getD, ho]
  rfl
theorem findIdx_none {l : List Ob} (h : ∀ (j : Nat) (u : Ob), l[j]? = some u → zD7 u = 0) : (l.findIdx? fun o => zD7 o != 0) = none := by
  rw [List.findIdx?_eq_none_iff]; intro u hu; obtain ⟨j, hj⟩ := List.mem_iff_getElem?.1 hu
  simp [h j u hj]
theorem obF_fine {l : List Ob} (h0 : ¬ (l.length < 1 ∨ 8 < l.length)) (h : ∀ (j : Nat) (u : Ob), l[j]? = some u → zD7 u = 0) : obF l = if (l.map Prod.fst).Nodup then (0, none) else (103, none) := by
  simp only [obF, if_neg h0, findIdx_none h]
def zBh (x : Mf) : Bool := decide (x.id < 0) || decide (2147483647 < x.id) || !zE9 x.base || !zE9 x.fin || decide (x.time < -1099511627776) || decide (1099511627776 < x.time) || decide (x.fin ≤ x.base)
def zDe (x : Mf) : Bool := decide (x.eps.length = 0) || decide ((x.eps.getD 0 (0, 0)).2 ≠ x.base) || decide (x.fin ≤ (x.eps.getD (x.eps.length - 1) (0, 0)).2)
def mfF (x : Mf) : Flt :=
  if zBh x then (105, none) else if epF x.eps ≠ 0 then (epF x.eps, none) else if zDe x then (103, none) else obF x.obs
theorem obBad_code (o : Ob) : zD7 o = 0 ∨ zD7 o = 106 ∨ zD7 o = 105 := by
  unfold zD7
  split
  · exact .inr (.inl rfl)
  · split
    · exact .inr (.inr rfl)
    · exact .inl rfl
theorem epF_code (l : List Pr) : epF l = 0 ∨ epF l = 104 ∨ epF l = 105 ∨ epF l = 103 := by
  unfold epF
  split
  · exact .inr (.inl rfl)
  · split
    · exact .inr (.inr (.inl rfl))
    · split
      · exact .inr (.inr (.inr rfl))
      · exact .inl rfl
/-- A fault's number is one of a few; a place stands by an error alone. -/
def FltOk (f : Flt) : Prop := (f = (0, none) ∨ f.1 ∈ [103, 104, 105, 106]) ∧ (f.2 = none ∨ f.1 ∈ [105, 106])
theorem obF_ok (l : List Ob) : FltOk (obF l) := by
  unfold obF
  split
  · exact ⟨.inr (by decide), .inl rfl⟩
  · split
    · rename_i i hi
      rw [List.findIdx?_eq_some_iff_getElem] at hi; obtain ⟨hl, hb, _⟩ := hi
      have hg : l.getD i (ByteArray.empty, 0, 0) = l[i] := by rw [List.getD_eq_getElem?_getD, List.getElem?_eq_getElem hl]; rfl
      rw [hg]
      rcases obBad_code l[i] with h | h | h
      · simp [h] at hb
      · rw [h]; exact ⟨.inr (by simp), .inr (by simp)⟩
      · rw [h]; exact ⟨.inr (by simp), .inr (by simp)⟩
    · split
      · exact ⟨.inl rfl, .inl rfl⟩
      · exact ⟨.inr (by decide), .inl rfl⟩
theorem mfF_ok (x : Mf) : FltOk (mfF x) := by
  unfold mfF
  split
  · exact ⟨.inr (by decide), .inl rfl⟩
  · split
    · rename_i h
      refine ⟨.inr ?_, .inl rfl⟩
      rcases epF_code x.eps with e | e | e | e
      · exact absurd e h
      all_goals rw [e]; decide
    · split
      · exact ⟨.inr (by decide), .inl rfl⟩
      · exact obF_ok _
/-! ### a view -/
def nextB (s k : Int) : Bool := if k = 1 then decide (s = 0) else if k = 2 then decide (s = 1) else if k = 3 then decide (s = 1) || decide (s = 2) else if k = 4 then decide (s = 3) else false
structure Itm where
  st : Int
  m : Mf
deriving DecidableEq
abbrev Vw := List (Int × Itm)
def Vw.state (V : Vw) (id : Int) : Int := (zB5 V id).elim 0 Itm.st
def Vw.apply (V : Vw) (k : Int) (x : Mf) : Flt × Vw :=
  if (mfF x).1 ≠ 0 then (mfF x, V) else
  if k < 1 ∨ 4 < k then ((112, none), V) else
  if nextB (V.state x.id) k = false then ((113, none), V) else
  match zB5 V x.id with
  | none => if 4096 ≤ V.length then ((104, none), V) else ((0, none), zCd V x.id ⟨k, x⟩)
  | some i => if i.m = x then ((0, none), zCd V x.id ⟨k, x⟩) else ((103, none), V)
def Mf.names (x : Mf) : List ByteArray := x.obs.map Prod.fst
def hasN (l : List ByteArray) (n : ByteArray) : Bool := l.any fun x => decide (x = n)
def refersB (i : Itm) (n : ByteArray) : Bool := (decide (i.st = 1) || decide (i.st = 2)) && hasN i.m.names n
def Vw.refers (V : Vw) (n : ByteArray) : Bool := V.any fun x => refersB x.2 n
end Go.Proofs.YtdkgdjnbpjjfmaaGreatDoor
namespace Go.Proofs.YtdkgdjnbpjjfmaaGreatDoor
set_option linter.all false
open Go.RowKit
variable {w : World}
theorem run_max {P : Program} {ρ : Env} {dst : Option Tmp} {ty : TypeId} {pos : String} {aft : Array Edge} {x y : Operand} {ts : Array TypeId} {k : IntKind} {a b : Int} (hx : ev ρ x = .int k a) (hy : ev ρ y = .int k b) : (execOp (ev ρ) ⟨dst, .call { callee := .builtin .max, args := #[x, y], argTypes := ts }, ty, pos, aft, none⟩).run P w = .ok (.value (.int k (max a b))) w := by
  have : (if a < b then b else a) = max a b := by
    rw [Int.max_def]; split <;> split <;> omega
  simp [execOp, resolve, invoke, builtin, Builtin.max_, hx, hy, Builtin.max2, this]
end Go.Proofs.YtdkgdjnbpjjfmaaGreatDoor
namespace Go.Proofs.YtdkgdjnbpjjfmaaGreatDoor
set_option linter.all false
open Go.RowKit
attribute [local irreducible] zAq eV
variable {g w : World} {L M : List HP} {ad : Nat → Addr} {rb at_ : Nat} {b rest : List UInt8}

theorem zBs (hE : ErrW ad g) (hs : Mem g w (zFc rb ad b (at_, 0) :: L)) (hlen : b.length ≤ 1073741824) {n most : Nat} (hb : b.drop at_ = zB4 n ++ rest) (hn : n < 18446744073709551616) (hm : n ≤ most) :
    Calls Tryz.prog 69 #[.pointer (some ⟨rb, 0, none⟩), .int .u64 most] w (Ret fun v w' => v = .int .u64 n ∧ Mem g w' (zFc rb ad b (at_ + (zB4 n).length, 0) :: L)) :=
  zCo hE hs hlen (by simp only [zEr, hb, vget_app hn rest]; rw [if_neg (by decide), if_neg (by decide), if_neg (by omega)])
theorem errOK_sl (hs : Mem g w (zFc rb ad b (at_, 0) :: L)) : Calls Tryz.prog 70 #[.pointer (some ⟨rb, 0, none⟩)] w (Ret fun v w' => v = .nilIface ∧ Mem g w' (zFc rb ad b (at_, 0) :: L)) :=
  (err_sl hs).mono fun _ _ ⟨v, h1, eb, h2, h3⟩ => ⟨v, h1, by rw [h2, eV_0], h3⟩
theorem intOK_sl (hE : ErrW ad g) (hs : Mem g w (zFc rb ad b (at_, 0) :: L)) (hlen : b.length ≤ 1073741824) {z f t : Int} (hb : b.drop at_ = zB4 (zig z) ++ rest) (hz : zCp z) (hft : f ≤ z ∧ z ≤ t) :
    Calls Tryz.prog 144 #[.pointer (some ⟨rb, 0, none⟩), .int .i64 f, .int .i64 t] w (Ret fun v w' => v = .int .i64 z ∧ Mem g w' (zFc rb ad b (at_ + (zB4 (zig z)).length, 0) :: L)) := by
  obtain ⟨hl, a, c, eb, hc, hs⟩ := hs.openR; simp only at hl; simp only [eV_0] at hs; have hq := congrArg List.length hb; rw [List.length_drop, List.length_append] at hq
  have hv : vgetI (b.drop at_) = (0, z, (zB4 (zig z)).length) := by simp [vgetI, hb, vget_app (zig_lt hz), zag_zig hz]
  refine zAo Tryz.func144 rfl rfl ?_
  skip
  refine zA6 (zA1 ?_); refine zA rfl (zA2 (v := .int .i64 _) rfl) ?_; refine zA4 ?_; refine zA6 ?_; refine zA6 (zA1 ?_); refine zA rfl (zA0 (v := .pointer (some _)) rfl) ?_; refine zA rfl (zA7 rfl) ?_; refine zA rfl (zA3 (o' := 2) zC6 rfl sz27 rfl rfl rfl) ?_; refine zA rfl (zA8 zCq rfl rfl (hs.cellAt 0 rfl rfl)) ?_; refine zA rfl (zBf rfl) ?_; refine zA4 ?_; refine zAx rfl (rfl) ?_; refine zAf ?_; refine zA6 ?_; refine zAy zBv hs ?_; intro w tr hK; replace hs := tr _ hs; clear tr; refine zA5 0 rfl rfl (fun w hs => zA0 (v := .pointer (some _)) rfl) hK ?_; refine zA5 1 rfl rfl (fun w hs => zA7 rfl) hK ?_; refine zA5 2 rfl rfl (fun w hs => zA3 (o' := 0) zC6 rfl sz23 rfl rfl rfl) hK ?_
  refine zA5 3 rfl rfl (fun w hs => zA8 zC0 rfl rfl (hs.cellAt 0 rfl rfl)) hK ?_; refine zA5 4 rfl rfl (fun w hs => zA0 (v := .pointer (some _)) rfl) hK ?_; refine zA5 5 rfl rfl (fun w hs => zA7 rfl) hK ?_; refine zA5 6 rfl rfl (fun w hs => zA3 (o' := 1) zC6 rfl sz3 rfl rfl rfl) hK ?_; refine zA5 7 rfl rfl (fun w hs => zA8 uz3 rfl rfl (hs.cellAt 0 rfl rfl)) hK ?_; refine zA5 8 rfl rfl (fun w hs => zC2 zC0 sz5 rfl rfl (lo := at_) rfl (by omega)) hK ?_; refine zA9 [9] ?_; refine ⟨⟨_, rfl, ?_⟩, trivial⟩
  refine zAb rfl en171 (vgetI_sl hE hs (k := 0) (z := z) (q := (zB4 (zig z)).length) (b := (b.take b.length).drop at_) ((hs.rdOwn 1 rfl).subB hl (Nat.le_refl _)) (by simp) (by simp; omega) (by rw [List.take_length]; exact hv)) ?_; clear hs; rintro _ w ⟨rfl, hs⟩; clear hK; have hK := hs; refine zA4 ⟨hK, ?_⟩; refine zA5 10 rfl rfl (fun w hs => zA0 (v := .tuple _) rfl) hK ?_; refine zA5 11 rfl rfl (fun w hs => zAa (v := .int .i64 _) rfl rfl) hK ?_; refine zA5 12 rfl rfl (fun w hs => zAa (v := .int .i64 _) rfl rfl) hK ?_; refine zA5 13 rfl rfl (fun w hs => zAa (v := zAq ad _) rfl rfl) hK ?_; refine zA5 14 rfl rfl (fun w hs => zA2 (v := .int .i64 _) rfl) hK ?_
  refine zA5 15 rfl rfl (fun w hs => zA2 (v := .int .i64 _) rfl) hK ?_; refine zA5 16 rfl rfl (fun w hs => zA2 (v := zAq ad _) rfl) hK ?_; refine zAp (by kernel_rfl) ?_; clear hK; refine zA6 ?_; refine zA6 (zA1 ?_); refine zA rfl (zA0 (v := zAq ad _) rfl) ?_; refine zA rfl (zD3 (ad := ad) rfl) ?_; refine zA rfl (zA0 (v := .bool _) rfl) ?_; refine zAi rfl rfl (rfl) ?_; refine zA rfl (zA0 (v := .int .i64 _) rfl) ?_; refine zAi rfl rfl (rfl) ?_; refine zA rfl (zA0 (v := .int .i64 _) rfl) ?_; refine zAi rfl rfl (rfl) ?_; refine zA rfl (zB7 rfl rfl) ?_; refine zAi rfl rfl (rfl) ?_; refine zA rfl (zA0 (v := .bool _) rfl) ?_; refine zAi rfl rfl (decide_eq_false (by omega)) ?_
  refine zA rfl (zA0 (v := .int .i64 _) rfl) ?_; refine zAi rfl rfl (decide_eq_false (by omega)) ?_; refine zA rfl (zA0 (v := .int .i64 _) rfl) ?_; refine zAi rfl rfl (decide_eq_false (by omega)) ?_; refine zA rfl (zBi rfl rfl) ?_; refine zAi rfl rfl (rfl) ?_; refine zA rfl (zAk (v := .bool _) rfl (decide_eq_false (by omega)) rfl) ?_; refine zA rfl (zAj (v := .bool _) rfl (rfl) rfl) ?_; refine zA4 ?_; refine zAx rfl (decide_eq_false (by omega)) ?_; refine zAf ?_; refine zA6 ?_; refine zA6 (zA1 ?_); refine zA rfl (zA0 (v := zAq ad _) rfl) ?_; refine zA rfl (zAt (ad := ad) rfl) ?_; refine zA4 ?_; refine zAx rfl (rfl) ?_; refine zAf ?_; refine zA6 (zA1 ?_)
  refine zA rfl (zA0 (v := .pointer (some _)) rfl) ?_; refine zA rfl (zA7 rfl) ?_; refine zA rfl (zA3 (o' := 1) zC6 rfl sz3 rfl rfl rfl) ?_; refine zA rfl (zA8 uz3 rfl rfl (hs.cellAt 0 rfl rfl)) ?_; refine zA rfl (zA0 (v := .int .i64 _) rfl) ?_; refine zA rfl (zAs rfl rfl (c := ((at_ + (zB4 (zig z)).length : Nat) : Int)) (by omega) (inI (by omega) (by omega))) ?_; refine zA rfl (zA7 rfl) ?_; refine zA rfl (zA3 (o' := 1) zC6 rfl sz3 rfl rfl rfl) ?_; refine zAr (v := .int .i64 _) hs 0 rfl sz3 rfl rfl rfl rfl ?_; clear hs; intro w hs
  try simp only [List.set_cons_succ, List.set_cons_zero] at hs
  refine zA4 (zA6 (zA1 ?_)); refine zA rfl (zA0 (v := .int .i64 _) rfl) ?_; refine zA rfl (zA2 (v := .int .i64 _) rfl) ?_; refine zA4 ?_; refine zAg ?_; refine zBl (v := .int .i64 _) rfl rfl ?_; exact ⟨_, rfl, rfl, Mem.closeR0 (by omega) hs⟩
theorem shl0 (u : Nat) (hu : u < 256) : IntKind.u64.wrap ((u : Int) * 2 ^ 0) = (u : Int) := by rw [zB]; omega
theorem fixOK_sl (hE : ErrW ad g) (hs : Mem g w (zFc rb ad b (at_, 0) :: L)) (hlen : b.length ≤ 1073741824) {u : UInt8} (hb : b.drop at_ = u :: rest) :
    Calls Tryz.prog 111 #[.pointer (some ⟨rb, 0, none⟩), .int .i64 1] w (Ret fun v w' => v = .int .u64 (u.toNat : Nat) ∧ Mem g w' (zFc rb ad b (at_ + 1, 0) :: L)) := by
  obtain ⟨hl, a, c, eb, hc, hs⟩ := hs.openR; simp only at hl; simp only [eV_0] at hs; have hq := congrArg List.length hb; rw [List.length_drop, List.length_cons] at hq; have hut := u.toNat_lt; refine zAo Tryz.func111 rfl rfl ?_
  skip
  refine zA6 (zA1 ?_); refine zA rfl (zA2 (v := .int .u64 _) rfl) ?_; refine zA4 ?_; refine zA6 ?_; refine zA6 (zA1 ?_); refine zA rfl (zA0 (v := .pointer (some _)) rfl) ?_; refine zA rfl (zA7 rfl) ?_; refine zA rfl (zA3 (o' := 2) zC6 rfl sz27 rfl rfl rfl) ?_; refine zA rfl (zA8 zCq rfl rfl (hs.cellAt 0 rfl rfl)) ?_; refine zA rfl (zBf rfl) ?_; refine zA rfl (zA0 (v := .bool _) rfl) ?_; refine zAi rfl rfl (rfl) ?_; refine zA rfl (zA0 (v := .int .i64 _) rfl) ?_; refine zAi rfl rfl (rfl) ?_; refine zA rfl (zB7 rfl rfl) ?_; refine zA rfl (zAk (v := .bool _) rfl (rfl) rfl) ?_; refine zA rfl (zA0 (v := .bool _) rfl) ?_; refine zAi rfl rfl (rfl) ?_; refine zA rfl (zA0 (v := .int .i64 _) rfl) ?_
  refine zAi rfl rfl (rfl) ?_; refine zA rfl (zBi rfl rfl) ?_; refine zA rfl (zAk (v := .bool _) rfl (rfl) rfl) ?_; refine zA4 ?_; refine zAx rfl (rfl) ?_; refine zAf ?_; refine zA6 ?_; refine zA6 ?_; replace hs := Mem.closeR0 hl hs; refine zA1 ?_; refine zA rfl (zA0 (v := .int .i64 _) rfl) ?_; refine zA rfl (zA0 (v := .pointer (some _)) rfl) ?_; refine zAb rfl en114 (left_sl hs hlen) ?_; clear hs; rintro _ w ⟨rfl, hl2, hs⟩; obtain ⟨hl3, a3, c3, eb3, hc3, hs⟩ := hs.openR; simp only [eV_0] at hs; refine zA rfl (zBi rfl rfl) ?_; refine zA4 ?_; refine zAx rfl (decide_eq_false (by omega)) ?_; refine zAf ?_; refine zA6 (zA1 ?_); refine zA rfl (zA2 (v := .int .u64 _) rfl) ?_; refine zA4 ?_
  refine zA6 ?_; refine zA6 ?_; refine zAy zBv hs ?_; intro w tr hK; replace hs := tr _ hs; clear tr; refine zA5 0 rfl rfl (fun w hs => zA0 (v := .pointer (some _)) rfl) hK ?_; refine zA5 1 rfl rfl (fun w hs => zA7 rfl) hK ?_; refine zA5 2 rfl rfl (fun w hs => zA3 (o' := 0) zC6 rfl sz23 rfl rfl rfl) hK ?_; refine zA5 3 rfl rfl (fun w hs => zA8 zC0 rfl rfl (hs.cellAt 0 rfl rfl)) hK ?_; refine zA5 4 rfl rfl (fun w hs => zA0 (v := .pointer (some _)) rfl) hK ?_; refine zA5 5 rfl rfl (fun w hs => zA7 rfl) hK ?_; refine zA5 6 rfl rfl (fun w hs => zA3 (o' := 1) zC6 rfl sz3 rfl rfl rfl) hK ?_; refine zA5 7 rfl rfl (fun w hs => zA8 uz3 rfl rfl (hs.cellAt 0 rfl rfl)) hK ?_
  refine zA5 8 rfl rfl (fun w hs => zA0 (v := .pointer (some _)) rfl) hK ?_; refine zA5 9 rfl rfl (fun w hs => zA7 rfl) hK ?_; refine zA5 10 rfl rfl (fun w hs => zA3 (o' := 1) zC6 rfl sz3 rfl rfl rfl) hK ?_; refine zA5 11 rfl rfl (fun w hs => zA8 uz3 rfl rfl (hs.cellAt 0 rfl rfl)) hK ?_; refine zA5 12 rfl rfl (fun w hs => zA0 (v := .int .i64 _) rfl) hK ?_; refine zA5 13 rfl rfl (fun w hs => zAs rfl rfl (c := ((at_ + 1 : Nat) : Int)) (by omega) (inI (by omega) (by omega))) hK ?_; refine zA5 14 rfl rfl (fun w hs => zF1 zC0 sz5 rfl rfl rfl (lo := at_) (hi := at_ + 1) rfl rfl (by omega) (by omega)) hK ?_; refine zA5 15 rfl rfl (fun w hs => zB2 zC0 rfl) hK ?_
  refine zA5 16 rfl rfl (fun w hs => zA0 (v := .int .i64 _) rfl) hK ?_; refine zAp (by kernel_rfl) ?_; clear hK; obtain ⟨sa, sc, hsub⟩ : ∃ sa sc, subS a3 c3 at_ (at_ + 1) = .slice sa 1 sc := ⟨_, _, by unfold subS; rw [show at_ + 1 - at_ = 1 by omega]⟩
  have hrs := fun (L : List HP) => (Rd.own (g := g) (L := cells rb [.slice a3 b.length c3, .int .i64 (at_ : Nat), .nilIface] 171 :: own (.slice a3 b.length c3) (zAm b) :: L) 1 rfl).subB (show at_ ≤ at_ + 1 by omega) (show at_ + 1 ≤ b.length by omega)
  have hx1 : (b.take (at_ + 1)).drop at_ = [u] := by rw [List.drop_take, hb]; simp
  rw [hx1, hsub] at hrs; rw [hsub]; refine zAw ?_; refine zBw (X := Nat) [5, 6, 7, 48, 49, 50, 51, 52, 53, 54, 55, 56, 57, 58, 59, 60] (fun k => [(5, .int .u64 ((if k = 0 then 0 else u.toNat : Nat) : Int)), (48, .int .i64 (k : Nat))]) (fun k w => k ≤ 1 ∧ Mem g w (cells rb [.slice a3 b.length c3, .int .i64 (at_ : Nat), .nilIface] 171 :: own (.slice a3 b.length c3) (zAm b) :: errC ad eb3 at_ 0 :: L)) (fun k => 1 - k) (0) ?_ ?_ ?_
  · exact ⟨rfl, rfl, trivial⟩
  · exact ⟨Nat.zero_le _, hs⟩
  clear hs; rintro x ξ w hI; obtain ⟨hk, hs⟩ := hI; refine zA6 (zA1 ?_); refine zA rfl (zB7 rfl rfl) ?_; refine zA4 ?_; refine zA6 ?_; refine zB8 rfl ?_ ?_
  ·
   intro h49; have g49 := of_decide_eq_true h49
   obtain rfl : x = 0 := by omega
   obtain ⟨b1, o1, rfl, _⟩ := (hrs _).cells' hs (by simp [zAm]); refine zAf ?_; refine zA6 ?_; refine zAw ?_; refine zA6 (zA1 ?_); refine zA rfl (zA0 (v := .int .i64 _) rfl) ?_; refine zA rfl (zBk zC0 sz5 rfl rfl (i := 0) rfl (by decide) rfl) ?_; refine zA rfl (zA8 uz5 rfl rfl ((hrs _).cellAt hs (zE2 (l := [u]) (k := 0) rfl))) ?_; refine zA rfl (zA2 (v := .int .i64 _) rfl) ?_; refine zA rfl (zA2 (v := .int .u8 _) rfl) ?_; refine zA4 ?_; refine zA1 ?_; refine zA rfl (zA0 (v := .int .u64 _) rfl) ?_; refine zA rfl (zA0 (v := .int .u8 _) rfl) ?_; refine zA rfl (zAh uz5 zBj rfl (c := ((u.toNat : Nat) : Int)) (by rw [zB]; omega)) ?_; refine zA rfl (zA0 (v := .int .i64 _) rfl) ?_
   refine zA rfl (zE3 rfl rfl (c := 0) rfl (inI (by omega) (by omega))) ?_; refine zA rfl (run_shl rfl rfl (n := 0) (c := ((u.toNat : Nat) : Int)) rfl (by decide) (shl0 _ (by omega))) ?_; refine zA rfl (zEh (v := .int .u64 ((u.toNat : Nat) : Int)) (by simp) rfl rfl (by have h9 := or_u64 0 u.toNat (by decide) (by omega); rw [Nat.zero_or] at h9; exact (show _ = Result.ok (Value.int IntKind.u64 (bits .or .u64 ((0 : Nat) : Int) ((u.toNat : Nat) : Int))) _ from rfl).trans (by rw [h9]))) ?_; refine zA rfl (zA2 (v := .int .u64 _) rfl) ?_; refine zA4 ?_; refine zA1 ?_; refine zA rfl (zAs rfl rfl rfl (inI (by omega) (by omega))) ?_; refine zA rfl (zA0 (v := .int .i64 _) rfl) ?_; refine zA4 ?_
   exact ⟨1, by omega, ⟨by omega, hs⟩, ⟨rfl, rfl, trivial⟩, by repeat (first | exact Out.mix _ _ _ | refine Out.updo rfl ?_ | refine Out.upd rfl ?_ | refine Out.mixIn rfl ?_)⟩
  ·
   intro h49; have g49 := of_decide_eq_false h49
   obtain rfl : x = 1 := by omega
   refine zBg rfl ?_; refine zA6 (zA1 ?_); refine zA rfl (zA0 (v := .pointer (some _)) rfl) ?_; refine zA rfl (zA7 rfl) ?_; refine zA rfl (zA3 (o' := 1) zC6 rfl sz3 rfl rfl rfl) ?_; refine zA rfl (zA8 uz3 rfl rfl (hs.cellAt 0 rfl rfl)) ?_; refine zA rfl (zA0 (v := .int .i64 _) rfl) ?_; refine zA rfl (zAs rfl rfl (c := ((at_ + 1 : Nat) : Int)) (by omega) (inI (by omega) (by omega))) ?_; refine zA rfl (zA7 rfl) ?_; refine zA rfl (zA3 (o' := 1) zC6 rfl sz3 rfl rfl rfl) ?_; refine zAr (v := .int .i64 _) hs 0 rfl sz3 rfl rfl rfl rfl ?_; clear hs; intro w hs
   try simp only [List.set_cons_succ, List.set_cons_zero] at hs
   refine zA4 (zA6 (zA1 ?_)); refine zA rfl (zA0 (v := .int .u64 _) rfl) ?_; refine zA rfl (zA2 (v := .int .u64 _) rfl) ?_; refine zA4 ?_; refine zAg ?_; refine zBl (v := .int .u64 _) rfl rfl ?_; exact ⟨_, rfl, rfl, Mem.closeR0 (by omega) hs⟩
theorem bytesOK_sl (hE : ErrW ad g) (hs : Mem g w (zFc rb ad b (at_, 0) :: L)) (hlen : b.length ≤ 1073741824) {l : List UInt8} {most : Nat} (hb : b.drop at_ = zB4 l.length ++ (l ++ rest)) (hm : l.length ≤ most) (hm2 : most ≤ 1000000000) :
    Calls Tryz.prog 112 #[.pointer (some ⟨rb, 0, none⟩), .int .i64 most] w (Ret fun v w' => ∃ s : SA, v = .slice s.1 l.length s.2 ∧ Mem g w' (own (.slice s.1 l.length s.2) (zAm l) :: zFc rb ad b (at_ + (zB4 l.length).length + l.length, 0) :: L)) := by
  obtain ⟨hl, a, c, eb, hc, hs⟩ := hs.openR; simp only at hl; simp only [eV_0] at hs; have hq := congrArg List.length hb; rw [List.length_drop, List.length_append, List.length_append] at hq; obtain ⟨vl, hvl⟩ : ∃ vl, vl = (zB4 l.length).length := ⟨_, rfl⟩
  have hx1 : (b.take (at_ + vl + l.length)).drop (at_ + vl) = l := by
    have h1 : b.drop (at_ + vl) = l ++ rest := by rw [← List.drop_drop, hb, hvl, List.drop_left]
    rw [List.drop_take, h1, show at_ + vl + l.length - (at_ + vl) = l.length by omega, List.take_left]
  refine zAo Tryz.func112 rfl rfl ?_
  skip
  refine zA6 (zA1 ?_); refine zA rfl (zA2 (v := .slice _ _ _) rfl) ?_; refine zA4 (zA6 (zA1 ?_)); refine zA rfl (zA0 (v := .pointer (some _)) rfl) ?_; refine zA rfl (zA7 rfl) ?_; refine zA rfl (zA3 (o' := 1) zC6 rfl sz3 rfl rfl rfl) ?_; refine zA rfl (zA8 uz3 rfl rfl (hs.cellAt 0 rfl rfl)) ?_; refine zA rfl (zA2 (v := .int .i64 _) rfl) ?_; refine zA4 ?_; replace hs := Mem.closeR0 hl hs; refine zA6 (zA1 ?_); refine zA rfl (zA0 (v := .pointer (some _)) rfl) ?_; refine zA rfl (zA0 (v := .int .i64 _) rfl) ?_; refine zA rfl (run_max rfl rfl) ?_; refine zA rfl (zAh uz3 zBj rfl (c := ((most : Nat) : Int)) (by rw [zB]; omega)) ?_; refine zAb rfl zDr (zBs hE hs hlen hb (by omega) hm) ?_; clear hs
  rintro _ w ⟨rfl, hs⟩; obtain ⟨hl2, a2, c2, eb2, hc2, hs⟩ := hs.openR; simp only [eV_0] at hs; rw [← hvl] at hs hl2 ⊢; simp only at hl2; refine zA rfl (zA2 (v := .int .u64 _) rfl) ?_; refine zA4 ?_; refine zA6 ?_; refine zA6 (zA1 ?_); refine zA rfl (zA0 (v := .pointer (some _)) rfl) ?_; refine zA rfl (zA7 rfl) ?_; refine zA rfl (zA3 (o' := 2) zC6 rfl sz27 rfl rfl rfl) ?_; refine zA rfl (zA8 zCq rfl rfl (hs.cellAt 0 rfl rfl)) ?_; replace hs := Mem.closeR0 hl2 hs; refine zA rfl (zEf rfl) ?_; refine zA rfl (zA0 (v := .bool _) rfl) ?_; refine zAi rfl rfl (rfl) ?_; refine zA rfl (zA0 (v := .int .u64 _) rfl) ?_; refine zAi rfl rfl (rfl) ?_; refine zA rfl (zA0 (v := .pointer (some _)) rfl) ?_
  refine zAi rfl rfl (rfl) ?_; refine zAb rfl en114 (left_sl hs hlen) ?_; clear hs; rintro _ w ⟨rfl, hl3, hs⟩; obtain ⟨hl4, a4, c4, eb4, hc4, hs⟩ := hs.openR; simp only [eV_0] at hs; refine zAi rfl rfl (rfl) ?_; refine zA rfl (zAh uz3 zBj rfl (c := ((b.length - (at_ + vl) : Nat) : Int)) (by rw [zB]; omega)) ?_; refine zAi rfl rfl (rfl) ?_; refine zA rfl (zBi rfl rfl) ?_; refine zA rfl (zAj (v := .bool _) rfl (rfl) rfl) ?_; refine zA4 ?_; refine zAx rfl (decide_eq_false (by omega)) ?_; refine zAf ?_; refine zA6 ?_; refine zA6 (zA1 ?_); refine zA rfl (zA0 (v := .pointer (some _)) rfl) ?_; refine zA rfl (zA7 rfl) ?_; refine zA rfl (zA3 (o' := 2) zC6 rfl sz27 rfl rfl rfl) ?_
  refine zA rfl (zA8 zCq rfl rfl (hs.cellAt 0 rfl rfl)) ?_; refine zA rfl (zBf rfl) ?_; refine zA4 ?_; refine zAx rfl (rfl) ?_; refine zAf ?_; refine zA6 (zA1 ?_); refine zA rfl (zA0 (v := .pointer (some _)) rfl) ?_; refine zA rfl (zA7 rfl) ?_; refine zA rfl (zA3 (o' := 1) zC6 rfl sz3 rfl rfl rfl) ?_; refine zA rfl (zA8 uz3 rfl rfl (hs.cellAt 0 rfl rfl)) ?_; refine zA rfl (zA0 (v := .int .u64 _) rfl) ?_; refine zA rfl (zAh zBj uz3 rfl (c := ((l.length : Nat) : Int)) (zCp.wrap ⟨by omega, by omega⟩)) ?_; refine zA rfl (zAs rfl rfl (c := ((at_ + vl + l.length : Nat) : Int)) (by omega) (inI (by omega) (by omega))) ?_; refine zA rfl (zA7 rfl) ?_
  refine zA rfl (zA3 (o' := 1) zC6 rfl sz3 rfl rfl rfl) ?_; refine zAr (v := .int .i64 _) hs 0 rfl sz3 rfl rfl rfl rfl ?_; clear hs; intro w hs
  try simp only [List.set_cons_succ, List.set_cons_zero] at hs
  refine zA4 ?_; refine zA6 ?_; refine zAy zBv hs ?_; intro w tr hK; replace hs := tr _ hs; clear tr; refine zA5 0 rfl rfl (fun w hs => zA0 (v := .pointer (some _)) rfl) hK ?_; refine zA5 1 rfl rfl (fun w hs => zA7 rfl) hK ?_; refine zA5 2 rfl rfl (fun w hs => zA3 (o' := 0) zC6 rfl sz23 rfl rfl rfl) hK ?_; refine zA5 3 rfl rfl (fun w hs => zA8 zC0 rfl rfl (hs.cellAt 0 rfl rfl)) hK ?_; refine zA5 4 rfl rfl (fun w hs => zA0 (v := .pointer (some _)) rfl) hK ?_; refine zA5 5 rfl rfl (fun w hs => zA7 rfl) hK ?_; refine zA5 6 rfl rfl (fun w hs => zA3 (o' := 1) zC6 rfl sz3 rfl rfl rfl) hK ?_; refine zA5 7 rfl rfl (fun w hs => zA8 uz3 rfl rfl (hs.cellAt 0 rfl rfl)) hK ?_
  refine zA5 8 rfl rfl (fun w hs => zA0 (v := .int .u64 _) rfl) hK ?_; refine zA5 9 rfl rfl (fun w hs => zAh zBj uz3 rfl (c := ((l.length : Nat) : Int)) (zCp.wrap ⟨by omega, by omega⟩)) hK ?_; refine zA5 10 rfl rfl (fun w hs => zCg rfl rfl (c := ((at_ + vl : Nat) : Int)) (by omega) (inI (by omega) (by omega))) hK ?_; refine zA5 11 rfl rfl (fun w hs => zA0 (v := .pointer (some _)) rfl) hK ?_; refine zA5 12 rfl rfl (fun w hs => zA7 rfl) hK ?_; refine zA5 13 rfl rfl (fun w hs => zA3 (o' := 1) zC6 rfl sz3 rfl rfl rfl) hK ?_; refine zA5 14 rfl rfl (fun w hs => zA8 uz3 rfl rfl (hs.cellAt 0 rfl rfl)) hK ?_
  refine zA5 15 rfl rfl (fun w hs => zF1 zC0 sz5 rfl rfl rfl (lo := at_ + vl) (hi := at_ + vl + l.length) rfl rfl (by omega) (by omega)) hK ?_; refine zA9 [16] ?_; refine ⟨⟨_, rfl, ?_⟩, trivial⟩; refine zAb rfl en46 (zFh hs (l := (b.take (at_ + vl + l.length)).drop (at_ + vl)) ((hs.rdOwn 1 rfl).subB (by omega) (by omega)) (by rw [hx1]; omega)) ?_; clear hs; rintro _ w ⟨a62, c62, rfl, hs⟩; rw [hx1, zAu] at hs ⊢; clear hK; have hK := hs.tail; refine zA4 ⟨hK, ?_⟩; refine zA5 17 rfl rfl (fun w hs => zA2 (v := .slice _ _ _) rfl) hK ?_; refine zAp (by kernel_rfl) ?_; clear hK; refine zAg ?_; refine zBl (v := .slice _ _ _) rfl rfl ?_
  exact ⟨_, rfl, (a62, c62), rfl, (Mem.closeR0 (L := own _ _ :: L) (by omega) (hs.arr [1, 2, 3, 0] 4 (by decide))).arr [1, 0] 2 (by decide)⟩
end Go.Proofs.YtdkgdjnbpjjfmaaGreatDoor
namespace Go.Proofs.YtdkgdjnbpjjfmaaGreatDoor
set_option linter.all false
open Go.RowKit
attribute [local irreducible] zAq eV
variable {g w : World} {L M : List HP} {ad : Nat → Addr} {rb : Nat} {b : List UInt8}

def vintB (f t : Int) (b : List UInt8) (st : Nat × Nat) : Int × Nat × Nat :=
  if st.2 ≠ 0 then (0, st) else if (vgetI (b.drop st.1)).1 ≠ 0 then (0, st.1, (vgetI (b.drop st.1)).1) else if (vgetI (b.drop st.1)).2.1 < f ∨ t < (vgetI (b.drop st.1)).2.1 then (0, st.1, 105) else ((vgetI (b.drop st.1)).2.1, st.1 + (vgetI (b.drop st.1)).2.2, 0)
theorem intB_sl (hE : ErrW ad g) {st : Nat × Nat} (hs : Mem g w (zFc rb ad b st :: L)) (hlen : b.length ≤ 1073741824) {f t : Int} {z : Int} {st2 : Nat × Nat} (hk : vintB f t b st = (z, st2)) :
    Calls Tryz.prog 144 #[.pointer (some ⟨rb, 0, none⟩), .int .i64 f, .int .i64 t] w (Ret fun v w' => v = .int .i64 z ∧ Mem g w' (zFc rb ad b st2 :: L)) := by
  obtain ⟨at_, code⟩ := st
  by_cases hc0 : code = 0
  · subst hc0
    obtain ⟨k, x, q, hv⟩ : ∃ k x q, vget (b.drop at_) = (k, x, q) := ⟨_, _, _, rfl⟩; have hcode := vgetF_code hv; have hxl := vget_lt hv
    have hvI : vgetI (b.drop at_) = (k, zag x, q) := by simp [vgetI, hv]
    have hzl : zCp (zag x) := by unfold zag; split <;> exact ⟨by omega, by omega⟩
    obtain ⟨hz1, hz2⟩ := id hzl; obtain ⟨hl, a, c, eb, hc, hs⟩ := hs.openR; simp only at hl; simp only [vintB, hvI] at hk; rw [if_neg (by decide)] at hk; simp only [eV_0] at hs; refine zAo Tryz.func144 rfl rfl ?_
    skip
    refine zA6 (zA1 ?_); refine zA rfl (zA2 (v := .int .i64 _) rfl) ?_; refine zA4 ?_; refine zA6 ?_; refine zA6 (zA1 ?_); refine zA rfl (zA0 (v := .pointer (some _)) rfl) ?_; refine zA rfl (zA7 rfl) ?_; refine zA rfl (zA3 (o' := 2) zC6 rfl sz27 rfl rfl rfl) ?_; refine zA rfl (zA8 zCq rfl rfl (hs.cellAt 0 rfl rfl)) ?_; refine zA rfl (zBf rfl) ?_; refine zA4 ?_; refine zAx rfl (rfl) ?_; refine zAf ?_; refine zA6 ?_; refine zAy zBv hs ?_; intro w tr hK; replace hs := tr _ hs; clear tr; refine zA5 0 rfl rfl (fun w hs => zA0 (v := .pointer (some _)) rfl) hK ?_; refine zA5 1 rfl rfl (fun w hs => zA7 rfl) hK ?_; refine zA5 2 rfl rfl (fun w hs => zA3 (o' := 0) zC6 rfl sz23 rfl rfl rfl) hK ?_
    refine zA5 3 rfl rfl (fun w hs => zA8 zC0 rfl rfl (hs.cellAt 0 rfl rfl)) hK ?_; refine zA5 4 rfl rfl (fun w hs => zA0 (v := .pointer (some _)) rfl) hK ?_; refine zA5 5 rfl rfl (fun w hs => zA7 rfl) hK ?_; refine zA5 6 rfl rfl (fun w hs => zA3 (o' := 1) zC6 rfl sz3 rfl rfl rfl) hK ?_; refine zA5 7 rfl rfl (fun w hs => zA8 uz3 rfl rfl (hs.cellAt 0 rfl rfl)) hK ?_; refine zA5 8 rfl rfl (fun w hs => zC2 zC0 sz5 rfl rfl (lo := at_) rfl (by omega)) hK ?_; refine zA9 [9] ?_; refine ⟨⟨_, rfl, ?_⟩, trivial⟩
    refine zAb rfl en171 (vgetI_sl hE hs (k := k) (z := zag x) (q := q) (b := (b.take b.length).drop at_) ((hs.rdOwn 1 rfl).subB hl (Nat.le_refl _)) (by simp) (by simp; omega) (by rw [List.take_length]; exact hvI)) ?_; clear hs; rintro _ w ⟨rfl, hs⟩; clear hK; have hK := hs; refine zA4 ⟨hK, ?_⟩; refine zA5 10 rfl rfl (fun w hs => zA0 (v := .tuple _) rfl) hK ?_; refine zA5 11 rfl rfl (fun w hs => zAa (v := .int .i64 _) rfl rfl) hK ?_; refine zA5 12 rfl rfl (fun w hs => zAa (v := .int .i64 _) rfl rfl) hK ?_; refine zA5 13 rfl rfl (fun w hs => zAa (v := zAq ad _) rfl rfl) hK ?_; refine zA5 14 rfl rfl (fun w hs => zA2 (v := .int .i64 _) rfl) hK ?_
    refine zA5 15 rfl rfl (fun w hs => zA2 (v := .int .i64 _) rfl) hK ?_; refine zA5 16 rfl rfl (fun w hs => zA2 (v := zAq ad _) rfl) hK ?_; refine zAp (by kernel_rfl) ?_; clear hK; refine zA6 ?_; refine zA6 (zA1 ?_); refine zA rfl (zA0 (v := zAq ad _) rfl) ?_; refine zA rfl (zD3 (ad := ad) rfl) ?_; refine zA rfl (zA0 (v := .bool _) rfl) ?_; refine zBa (t := _) (d := 31) rfl ?_ ?_
    ·
     intro h30; have g30 := of_decide_eq_true h30; have hz := of_decide_eq_true h30; subst hz; rw [if_neg (by decide)] at hk; refine zAi rfl rfl h30 ?_; refine zA rfl (zA0 (v := .int .i64 _) rfl) ?_; refine zAi rfl rfl h30 ?_; refine zA rfl (zA0 (v := .int .i64 _) rfl) ?_; refine zAi rfl rfl h30 ?_; refine zA rfl (zB7 rfl rfl) ?_; refine zAi rfl rfl h30 ?_; refine zA rfl (zA0 (v := .bool _) rfl) ?_; refine zBa (t := _) (d := 35) rfl ?_ ?_
     ·
      intro h34; have g34 := of_decide_eq_true h34; rw [if_pos (by omega)] at hk
      cases hk
      refine zAc rfl rfl rfl h34 ?_; refine zAc rfl rfl rfl h34 ?_; refine zAc rfl rfl rfl h34 ?_; refine zAi rfl rfl h30 ?_; refine zA rfl (zAj (v := .bool _) rfl h34 rfl) ?_; refine zA rfl (zAj (v := .bool _) rfl h30 rfl) ?_; refine zA4 ?_; refine zBb rfl rfl ?_; refine zA1 ?_; refine zA rfl (zA8 zCq rfl rfl (hE.cellW hs 105 (by decide) rfl)) ?_; refine zA rfl (zA2 (v := zAq ad _) rfl) ?_; refine zA4 ?_; refine zA6 ?_; refine zA6 (zA1 ?_); refine zA rfl (zA0 (v := zAq ad _) rfl) ?_; refine zA rfl (zAt (ad := ad) rfl) ?_; refine zA4 ?_; refine zBb rfl (rfl) ?_; refine zA6 (zA1 ?_); refine zA rfl (zA0 (v := .pointer (some _)) rfl) ?_; refine zA rfl (zA0 (v := .pointer (some _)) rfl) ?_
      refine zA rfl (zA7 rfl) ?_; refine zA rfl (zA3 (o' := 1) zC6 rfl sz3 rfl rfl rfl) ?_; refine zA rfl (zA8 uz3 rfl rfl (hs.cellAt 0 rfl rfl)) ?_; refine zA rfl (zA0 (v := zAq ad _) rfl) ?_; refine zAb rfl en110 (bad_sl hE (k := 105) (by decide) (Mem.closeR0 hl hs)) ?_; clear hs; rintro _ w ⟨rfl, hs⟩; refine zA4 (zA6 (zA1 ?_)); refine zA rfl (zA2 (v := .int .i64 _) rfl) ?_; refine zA4 ?_; refine zAg ?_; refine zBl (v := .int .i64 _) rfl rfl ?_; exact ⟨_, rfl, rfl, hs⟩
     ·
      intro h34; have g34 := of_decide_eq_false h34; refine zAi rfl rfl h34 ?_; refine zA rfl (zA0 (v := .int .i64 _) rfl) ?_; refine zAi rfl rfl h34 ?_; refine zA rfl (zA0 (v := .int .i64 _) rfl) ?_; refine zAi rfl rfl h34 ?_; refine zA rfl (zBi rfl rfl) ?_; refine zAi rfl rfl h30 ?_; refine zA rfl (zAk (v := .bool _) rfl h34 rfl) ?_; refine zA rfl (zAj (v := .bool _) rfl h30 rfl) ?_; refine zA4 ?_; refine zB8 rfl ?_ ?_
      ·
       intro h38; have g38 := of_decide_eq_true h38; rw [if_pos (by omega)] at hk
       cases hk
       refine zA1 ?_; refine zA rfl (zA8 zCq rfl rfl (hE.cellW hs 105 (by decide) rfl)) ?_; refine zA rfl (zA2 (v := zAq ad _) rfl) ?_; refine zA4 ?_; refine zA6 ?_; refine zA6 (zA1 ?_); refine zA rfl (zA0 (v := zAq ad _) rfl) ?_; refine zA rfl (zAt (ad := ad) rfl) ?_; refine zA4 ?_; refine zBb rfl (rfl) ?_; refine zA6 (zA1 ?_); refine zA rfl (zA0 (v := .pointer (some _)) rfl) ?_; refine zA rfl (zA0 (v := .pointer (some _)) rfl) ?_; refine zA rfl (zA7 rfl) ?_; refine zA rfl (zA3 (o' := 1) zC6 rfl sz3 rfl rfl rfl) ?_; refine zA rfl (zA8 uz3 rfl rfl (hs.cellAt 0 rfl rfl)) ?_; refine zA rfl (zA0 (v := zAq ad _) rfl) ?_
       refine zAb rfl en110 (bad_sl hE (k := 105) (by decide) (Mem.closeR0 hl hs)) ?_; clear hs; rintro _ w ⟨rfl, hs⟩; refine zA4 (zA6 (zA1 ?_)); refine zA rfl (zA2 (v := .int .i64 _) rfl) ?_; refine zA4 ?_; refine zAg ?_; refine zBl (v := .int .i64 _) rfl rfl ?_; exact ⟨_, rfl, rfl, hs⟩
      ·
       intro h38; have g38 := of_decide_eq_false h38; rw [if_neg (by omega)] at hk
       cases hk
       refine zAf ?_; refine zA6 ?_; refine zA6 (zA1 ?_); refine zA rfl (zA0 (v := zAq ad _) rfl) ?_; refine zA rfl (zAt (ad := ad) rfl) ?_; refine zA4 ?_; refine zAx rfl (rfl) ?_; refine zAf ?_; refine zA6 ?_; have hq := vgetF_q hv; rw [List.length_drop] at hq; refine zA1 ?_; refine zA rfl (zA0 (v := .pointer (some _)) rfl) ?_; refine zA rfl (zA7 rfl) ?_; refine zA rfl (zA3 (o' := 1) zC6 rfl sz3 rfl rfl rfl) ?_; refine zA rfl (zA8 uz3 rfl rfl (hs.cellAt 0 rfl rfl)) ?_; refine zA rfl (zA0 (v := .int .i64 _) rfl) ?_; refine zA rfl (zAs rfl rfl (c := ((at_ + q : Nat) : Int)) (by omega) (inI (by omega) (by omega))) ?_; refine zA rfl (zA7 rfl) ?_
       refine zA rfl (zA3 (o' := 1) zC6 rfl sz3 rfl rfl rfl) ?_; refine zAr (v := .int .i64 _) hs 0 rfl sz3 rfl rfl rfl rfl ?_; clear hs; intro w hs
       try simp only [List.set_cons_succ, List.set_cons_zero] at hs
       refine zA4 (zA6 (zA1 ?_)); refine zA rfl (zA0 (v := .int .i64 _) rfl) ?_; refine zA rfl (zA2 (v := .int .i64 _) rfl) ?_; refine zA4 ?_; refine zAg ?_; refine zBl (v := .int .i64 _) rfl rfl ?_; exact ⟨_, rfl, rfl, Mem.closeR0 (by omega) hs⟩
    ·
     intro h30; have g30 := of_decide_eq_false h30; have hz := of_decide_eq_false h30; rw [if_pos hz] at hk
     cases hk
     refine zAc rfl rfl rfl h30 ?_; refine zAc rfl rfl rfl h30 ?_; refine zAc rfl rfl rfl h30 ?_; refine zAc rfl rfl rfl h30 ?_; refine zDn rfl rfl rfl ?_; refine zDn rfl rfl rfl ?_; refine zDn rfl rfl rfl ?_; refine zAc rfl rfl rfl h30 ?_; refine zA rfl (zAk (v := .bool _) rfl h30 rfl) ?_; refine zA4 ?_; refine zAx rfl rfl ?_; refine zAf ?_; refine zA6 ?_; refine zA6 (zA1 ?_); refine zA rfl (zA0 (v := zAq ad _) rfl) ?_; refine zA rfl (zAt (ad := ad) rfl) ?_; refine zA4 ?_; refine zBb rfl (by rw [decide_eq_false hz]; rfl) ?_; refine zA6 (zA1 ?_); refine zA rfl (zA0 (v := .pointer (some _)) rfl) ?_; refine zA rfl (zA0 (v := .pointer (some _)) rfl) ?_; refine zA rfl (zA7 rfl) ?_
     refine zA rfl (zA3 (o' := 1) zC6 rfl sz3 rfl rfl rfl) ?_; refine zA rfl (zA8 uz3 rfl rfl (hs.cellAt 0 rfl rfl)) ?_; refine zA rfl (zA0 (v := zAq ad _) rfl) ?_; refine zAb rfl en110 (bad_sl hE (k := k) (by rcases hcode with h | h | h; exact absurd h hz; rw [h]; decide; rw [h]; decide) (Mem.closeR0 hl hs)) ?_; clear hs; rintro _ w ⟨rfl, hs⟩; refine zA4 (zA6 (zA1 ?_)); refine zA rfl (zA2 (v := .int .i64 _) rfl) ?_; refine zA4 ?_; refine zAg ?_; refine zBl (v := .int .i64 _) rfl rfl ?_; exact ⟨_, rfl, rfl, hs⟩
  · obtain ⟨hl, a, c, eb, hc, hs⟩ := hs.openR
    simp only [vintB] at hk; rw [if_pos hc0] at hk
    cases hk
    refine zAo Tryz.func144 rfl rfl ?_
    skip
    refine zA6 (zA1 ?_); refine zA rfl (zA2 (v := .int .i64 _) rfl) ?_; refine zA4 ?_; refine zA6 ?_; refine zA6 (zA1 ?_); refine zA rfl (zA0 (v := .pointer (some _)) rfl) ?_; refine zA rfl (zA7 rfl) ?_; refine zA rfl (zA3 (o' := 2) zC6 rfl sz27 rfl rfl rfl) ?_; refine zA rfl (zA8 zCq rfl rfl (hs.cellAt 0 rfl rfl)) ?_; refine zA rfl (run_neE (ad := ad) rfl) ?_; refine zA4 ?_; refine zBb rfl (by rw [decide_eq_false hc0]; rfl) ?_; refine zA6 (zA1 ?_); refine zA rfl (zA2 (v := .int .i64 _) rfl) ?_; refine zA4 ?_; refine zAg ?_; refine zBl (v := .int .i64 _) rfl rfl ?_; exact ⟨_, rfl, rfl, Mem.closeR hl hs⟩
/-! ### bytes -/
def bytG (most : Nat) (b : List UInt8) (st : Nat × Nat) : List UInt8 × Nat × Nat :=
  if (zEr most b st).2.2 ≠ 0 then ([], (zEr most b st).2) else if b.length - (zEr most b st).2.1 < (zEr most b st).1 then ([], st.1, 101) else
    ((b.drop (zEr most b st).2.1).take (zEr most b st).1, (zEr most b st).2.1 + (zEr most b st).1, 0)
theorem zF3 {most : Nat} {st : Nat × Nat} {n : Nat} {st2 : Nat × Nat} (hk : zEr most b st = (n, st2)) : n ≤ most := by
  unfold zEr at hk
  split at hk
  · cases hk; exact Nat.zero_le _
  · split at hk
    · cases hk; exact Nat.zero_le _
    · split at hk
      · cases hk; exact Nat.zero_le _
      · cases hk; omega
/-- An error is noted, of what begins elsewhere. -/
theorem badG_sl (hE : ErrW ad g) {at1 at_ : Nat} {k : Nat} (hk : k ∈ vintCodes) (hl : at_ ≤ b.length) (hs : Mem g w (zFc rb ad b (at1, 0) :: L)) : Calls Tryz.prog 110 #[.pointer (some ⟨rb, 0, none⟩), .int .i64 at_, zAq ad k] w (Ret fun v w' => v = .tuple #[] ∧ Mem g w' (zFc rb ad b (at_, k) :: L)) := by
  obtain ⟨_, a, c, eb, hc, hs⟩ := hs.openR
  have hk0 : k ≠ 0 := fun e => by subst e; exact absurd hk (by decide)
  refine zAo Tryz.func110 rfl rfl ?_
  skip
  refine zA6 (zA1 ?_); refine zA rfl (zA0 (v := .pointer (some _)) rfl) ?_; refine zA rfl (zA0 (v := .int .i64 _) rfl) ?_; refine zA rfl (zA7 rfl) ?_; refine zA rfl (zA3 (o' := 1) zC6 rfl sz3 rfl rfl rfl) ?_; refine zAr (v := .int .i64 _) hs 0 rfl sz3 rfl rfl rfl rfl ?_; clear hs; intro w hs
  try simp only [List.set_cons_succ, List.set_cons_zero] at hs
  refine zA4 (zA6 (zA1 ?_)); refine zA rfl (zA0 (v := .pointer (some _)) rfl) ?_; refine zA rfl (zA0 (v := zAq ad _) rfl) ?_; refine zA rfl (zA7 rfl) ?_; refine zA rfl (zA3 (o' := 2) zC6 rfl sz27 rfl rfl rfl) ?_; refine zAr (v := zAq ad k) hs 0 rfl sz27 rfl rfl rfl (errV_one ad k) ?_; clear hs; intro w hs; simp only [List.set_cons_succ, List.set_cons_zero] at hs; refine zA4 (zA6 (zA1 ?_)); refine zA rfl (zA0 (v := zAq ad _) rfl) ?_; refine zA rfl (zA8 zCq rfl rfl (hE.cellW hs 101 (by decide) rfl)) ?_; refine zA rfl (run_neerr (hE.atW hs) (.inr hk) (by decide) rfl rfl) ?_; refine zA4 ?_; refine zB8 rfl ?_ ?_
  ·
   intro h16; have g16 := ne_t h16; refine zA1 ?_; refine zA rfl (zA0 (v := .pointer (some _)) rfl) ?_; refine zA rfl (zA0 (v := .int .i64 _) rfl) ?_; refine zA rfl (zA0 (v := zAq ad _) rfl) ?_; refine zA rfl (zB3 [.int .i64 at_, zAq ad k] uz109 ze109 pl109 rfl (at_one _ _) rfl rfl) ?_; refine zCj (v := .agg _) hs rfl rfl ?_; clear hs; intro b21 w hs; refine zA rfl (run_mkI uz104 rfl) ?_; refine zA rfl (zA7 rfl) ?_; refine zA rfl (zA3 (o' := 2) zC6 rfl sz27 rfl rfl rfl) ?_; refine zAr (v := .iface _ (.pointer (some _))) hs 1 rfl sz27 rfl rfl rfl rfl ?_; clear hs; intro w hs
   try simp only [List.set_cons_succ, List.set_cons_zero] at hs
   refine zA4 ?_; refine res0  rfl ?_
   have hne : k ≠ 101 := by simpa using h16
   refine ⟨_, rfl, rfl, Mem.closeR (st := (at_, k)) (a := a) (c := c) (eb := b21) hl ?_⟩; rw [eV_at hk0 hne, errC_at (by omega)]; exact hs.arr [1, 2, 0] 4 (by decide)
  ·
   intro h16; have g16 := ne_f h16; refine zAf ?_; refine res0  rfl ?_
   have he : k = 101 := by simpa using h16
   subst he; refine ⟨_, rfl, rfl, Mem.closeR (st := (at_, 101)) (a := a) (c := c) (eb := eb) hl ?_⟩; rw [eV_101, errC_bare (.inr rfl)]; exact hs
theorem bytesG_sl (hE : ErrW ad g) {st : Nat × Nat} (hs : Mem g w (zFc rb ad b st :: L)) (hlen : b.length ≤ 1073741824) {most : Nat} (hm2 : most ≤ 1000000000) {l : List UInt8} {st2 : Nat × Nat} (hk : bytG most b st = (l, st2)) :
    Calls Tryz.prog 112 #[.pointer (some ⟨rb, 0, none⟩), .int .i64 most] w (Ret fun v w' => ∃ s : SA, v = .slice s.1 l.length s.2 ∧ Mem g w' (own (.slice s.1 l.length s.2) (zAm l) :: zFc rb ad b st2 :: L)) := by
  obtain ⟨n, st1, hv⟩ : ∃ n st1, zEr most b st = (n, st1) := ⟨_, _, rfl⟩; have hn := zF3 hv; obtain ⟨at_, code⟩ := st; obtain ⟨at1, code1⟩ := st1; simp only [bytG, hv] at hk; obtain ⟨hl0, a, c, eb, hc, hs⟩ := hs.openR; simp only at hl0; refine zAo Tryz.func112 rfl rfl ?_
  skip
  refine zA6 (zA1 ?_); refine zA rfl (zA2 (v := .slice _ _ _) rfl) ?_; refine zA4 (zA6 (zA1 ?_)); refine zA rfl (zA0 (v := .pointer (some _)) rfl) ?_; refine zA rfl (zA7 rfl) ?_; refine zA rfl (zA3 (o' := 1) zC6 rfl sz3 rfl rfl rfl) ?_; refine zA rfl (zA8 uz3 rfl rfl (hs.cellAt 0 rfl rfl)) ?_; refine zA rfl (zA2 (v := .int .i64 _) rfl) ?_; refine zA4 ?_; replace hs := Mem.closeR hl0 hs; refine zA6 (zA1 ?_); refine zA rfl (zA0 (v := .pointer (some _)) rfl) ?_; refine zA rfl (zA0 (v := .int .i64 _) rfl) ?_; refine zA rfl (run_max rfl rfl) ?_; refine zA rfl (zAh uz3 zBj rfl (c := ((most : Nat) : Int)) (by rw [zB]; omega)) ?_; refine zAb rfl zDr (zCo hE hs hlen hv) ?_; clear hs
  rintro _ w ⟨rfl, hs⟩; refine zA rfl (zA2 (v := .int .u64 _) rfl) ?_; refine zA4 ?_; refine zA6 ?_; refine zA6 ?_
  by_cases hz : code1 = 0
  ·
   subst hz; rw [if_neg (by simp)] at hk; obtain ⟨hl1, a1, c1, eb1, hc1, hs⟩ := hs.openR; simp only [eV_0] at hl1 hs; refine zA1 ?_; refine zA rfl (zA0 (v := .pointer (some _)) rfl) ?_; refine zA rfl (zA7 rfl) ?_; refine zA rfl (zA3 (o' := 2) zC6 rfl sz27 rfl rfl rfl) ?_; refine zA rfl (zA8 zCq rfl rfl (hs.cellAt 0 rfl rfl)) ?_; refine zA rfl (zEf rfl) ?_; replace hs := Mem.closeR0 hl1 hs; refine zA rfl (zA0 (v := .bool _) rfl) ?_; refine zAi rfl rfl (rfl) ?_; refine zA rfl (zA0 (v := .int .u64 _) rfl) ?_; refine zAi rfl rfl (rfl) ?_; refine zA rfl (zA0 (v := .pointer (some _)) rfl) ?_; refine zAi rfl rfl (rfl) ?_; refine zAb rfl en114 (left_sl hs hlen) ?_; clear hs
   rintro _ w ⟨rfl, hl3, hs⟩; refine zAi rfl rfl (rfl) ?_; refine zA rfl (zAh uz3 zBj rfl (c := ((b.length - at1 : Nat) : Int)) (by rw [zB]; omega)) ?_; refine zAi rfl rfl (rfl) ?_; refine zA rfl (zBi rfl rfl) ?_; refine zA rfl (zAj (v := .bool _) rfl (rfl) rfl) ?_; refine zA4 ?_; refine zB8 rfl ?_ ?_
   ·
    intro h26; have g26 := of_decide_eq_true h26; rw [if_pos (by omega)] at hk
    cases hk
    refine zA1 ?_; refine zA rfl (zA0 (v := .pointer (some _)) rfl) ?_; refine zA rfl (zA0 (v := .int .i64 _) rfl) ?_; refine zA rfl (zA8 zCq rfl rfl (hE.cellW hs 101 (by decide) rfl)) ?_; refine zAb rfl en110 (badG_sl hE (k := 101) (by decide) hl0 hs) ?_; clear hs; rintro _ w ⟨rfl, hs⟩; refine zA4 ?_; refine zA6 ?_; refine zA6 ?_; obtain ⟨hl4, a4, c4, eb4, hc4, hs⟩ := hs.openR; simp only [eV_101] at hl4 hs; refine zA1 ?_; refine zA rfl (zA0 (v := .pointer (some _)) rfl) ?_; refine zA rfl (zA7 rfl) ?_; refine zA rfl (zA3 (o' := 2) zC6 rfl sz27 rfl rfl rfl) ?_; refine zA rfl (zA8 zCq rfl rfl (hs.cellAt 0 rfl rfl)) ?_; refine zA rfl (zAt (ad := ad) rfl) ?_; refine zA4 ?_
    refine zBb rfl (by rw [decide_eq_false (by decide)]; rfl) ?_; refine zA6 (zA1 ?_); refine zA rfl (zA2 (v := .slice _ _ _) rfl) ?_; refine zA4 ?_; refine zAg ?_; refine zBl (v := .slice _ _ _) rfl rfl ?_; exact ⟨_, rfl, (none, 0), rfl, (Mem.closeR (st := (at_, 101)) hl4 (by rw [eV_101]; exact hs)).addE (zDo _)⟩
   ·
    intro h26; have g26 := of_decide_eq_false h26; rw [if_neg (by omega)] at hk
    cases hk
    refine zAf ?_; refine zA6 ?_; refine zA6 ?_; obtain ⟨hl4, a4, c4, eb4, hc4, hs⟩ := hs.openR; simp only [eV_0] at hl4 hs; refine zA1 ?_; refine zA rfl (zA0 (v := .pointer (some _)) rfl) ?_; refine zA rfl (zA7 rfl) ?_; refine zA rfl (zA3 (o' := 2) zC6 rfl sz27 rfl rfl rfl) ?_; refine zA rfl (zA8 zCq rfl rfl (hs.cellAt 0 rfl rfl)) ?_; refine zA rfl (zBf rfl) ?_; refine zA4 ?_; refine zAx rfl (rfl) ?_; refine zAf ?_; refine zA6 (zA1 ?_); refine zA rfl (zA0 (v := .pointer (some _)) rfl) ?_; refine zA rfl (zA7 rfl) ?_; refine zA rfl (zA3 (o' := 1) zC6 rfl sz3 rfl rfl rfl) ?_; refine zA rfl (zA8 uz3 rfl rfl (hs.cellAt 0 rfl rfl)) ?_; refine zA rfl (zA0 (v := .int .u64 _) rfl) ?_
    refine zA rfl (zAh zBj uz3 rfl (c := ((n : Nat) : Int)) (zCp.wrap ⟨by omega, by omega⟩)) ?_; refine zA rfl (zAs rfl rfl (c := ((at1 + n : Nat) : Int)) (by omega) (inI (by omega) (by omega))) ?_; refine zA rfl (zA7 rfl) ?_; refine zA rfl (zA3 (o' := 1) zC6 rfl sz3 rfl rfl rfl) ?_; refine zAr (v := .int .i64 _) hs 0 rfl sz3 rfl rfl rfl rfl ?_; clear hs; intro w hs
    try simp only [List.set_cons_succ, List.set_cons_zero] at hs
    refine zA4 ?_; refine zA6 ?_; refine zAy zBv hs ?_; intro w tr hK; replace hs := tr _ hs; clear tr; refine zA5 0 rfl rfl (fun w hs => zA0 (v := .pointer (some _)) rfl) hK ?_; refine zA5 1 rfl rfl (fun w hs => zA7 rfl) hK ?_; refine zA5 2 rfl rfl (fun w hs => zA3 (o' := 0) zC6 rfl sz23 rfl rfl rfl) hK ?_; refine zA5 3 rfl rfl (fun w hs => zA8 zC0 rfl rfl (hs.cellAt 0 rfl rfl)) hK ?_; refine zA5 4 rfl rfl (fun w hs => zA0 (v := .pointer (some _)) rfl) hK ?_; refine zA5 5 rfl rfl (fun w hs => zA7 rfl) hK ?_; refine zA5 6 rfl rfl (fun w hs => zA3 (o' := 1) zC6 rfl sz3 rfl rfl rfl) hK ?_; refine zA5 7 rfl rfl (fun w hs => zA8 uz3 rfl rfl (hs.cellAt 0 rfl rfl)) hK ?_
    refine zA5 8 rfl rfl (fun w hs => zA0 (v := .int .u64 _) rfl) hK ?_; refine zA5 9 rfl rfl (fun w hs => zAh zBj uz3 rfl (c := ((n : Nat) : Int)) (zCp.wrap ⟨by omega, by omega⟩)) hK ?_; refine zA5 10 rfl rfl (fun w hs => zCg rfl rfl (c := ((at1 : Nat) : Int)) (by omega) (inI (by omega) (by omega))) hK ?_; refine zA5 11 rfl rfl (fun w hs => zA0 (v := .pointer (some _)) rfl) hK ?_; refine zA5 12 rfl rfl (fun w hs => zA7 rfl) hK ?_; refine zA5 13 rfl rfl (fun w hs => zA3 (o' := 1) zC6 rfl sz3 rfl rfl rfl) hK ?_; refine zA5 14 rfl rfl (fun w hs => zA8 uz3 rfl rfl (hs.cellAt 0 rfl rfl)) hK ?_
    refine zA5 15 rfl rfl (fun w hs => zF1 zC0 sz5 rfl rfl rfl (lo := at1) (hi := at1 + n) rfl rfl (by omega) (by omega)) hK ?_; refine zA9 [16] ?_; refine ⟨⟨_, rfl, ?_⟩, trivial⟩; refine zAb rfl en46 (zFh hs (l := (b.take (at1 + n)).drop at1) ((hs.rdOwn 1 rfl).subB (by omega) (by omega)) (by simp; omega)) ?_; clear hs; rintro _ w ⟨a62, c62, rfl, hs⟩
    have hx1 : (b.take (at1 + n)).drop at1 = (b.drop at1).take n := by rw [List.drop_take, show at1 + n - at1 = n by omega]
    rw [hx1, zAu] at hs ⊢; clear hK; have hK := hs.tail; refine zA4 ⟨hK, ?_⟩; refine zA5 17 rfl rfl (fun w hs => zA2 (v := .slice _ _ _) rfl) hK ?_; refine zAp (by kernel_rfl) ?_; clear hK; refine zAg ?_; refine zBl (v := .slice _ _ _) rfl rfl ?_; exact ⟨_, rfl, (a62, c62), rfl, (Mem.closeR0 (L := own _ _ :: L) (by omega) (hs.arr [1, 2, 3, 0] 4 (by decide))).arr [1, 0] 2 (by decide)⟩
  ·
   rw [if_pos hz] at hk
   cases hk
   obtain ⟨hl1, a1, c1, eb1, hc1, hs⟩ := hs.openR; simp only at hl1 hs; refine zA1 ?_; refine zA rfl (zA0 (v := .pointer (some _)) rfl) ?_; refine zA rfl (zA7 rfl) ?_; refine zA rfl (zA3 (o' := 2) zC6 rfl sz27 rfl rfl rfl) ?_; refine zA rfl (zA8 zCq rfl rfl (hs.cellAt 0 rfl rfl)) ?_; refine zA rfl (run_eqE (ad := ad) rfl) ?_; refine zA rfl (zA0 (v := .bool _) rfl) ?_; refine zAc rfl rfl rfl (decide_eq_false hz) ?_; refine zAc rfl rfl rfl (decide_eq_false hz) ?_; refine zAc rfl rfl rfl (decide_eq_false hz) ?_; refine zAc rfl rfl rfl (decide_eq_false hz) ?_; refine zAc rfl rfl rfl (decide_eq_false hz) ?_; refine zA rfl (zAk (v := .bool _) rfl (decide_eq_false hz) rfl) ?_; refine zA4 ?_
   refine zAx rfl rfl ?_; refine zAf ?_; refine zA6 ?_; refine zA6 (zA1 ?_); refine zA rfl (zA0 (v := .pointer (some _)) rfl) ?_; refine zA rfl (zA7 rfl) ?_; refine zA rfl (zA3 (o' := 2) zC6 rfl sz27 rfl rfl rfl) ?_; refine zA rfl (zA8 zCq rfl rfl (hs.cellAt 0 rfl rfl)) ?_; refine zA rfl (run_neE (ad := ad) rfl) ?_; refine zA4 ?_; refine zBb rfl (by rw [decide_eq_false hz]; rfl) ?_; refine zA6 (zA1 ?_); refine zA rfl (zA2 (v := .slice _ _ _) rfl) ?_; refine zA4 ?_; refine zAg ?_; refine zBl (v := .slice _ _ _) rfl rfl ?_; exact ⟨_, rfl, (none, 0), rfl, (Mem.closeR hl1 hs).addE (zDo _)⟩
end Go.Proofs.YtdkgdjnbpjjfmaaGreatDoor
namespace Go.Proofs.YtdkgdjnbpjjfmaaGreatDoor
set_option linter.all false
open Go.RowKit
variable {g w : World} {L M : List HP} {ad : Nat → Addr} {p : Nat}

def flV (ad : Nat → Addr) (f : Flt) (eb : Nat) : Value := match f.2 with | none => zAq ad f.1 | some _ => .iface 104 (.pointer (some ⟨eb, 0, none⟩))
def flC (ad : Nat → Addr) (f : Flt) (eb : Nat) : HP := match f.2 with | none => emp | some z => cells eb [.int .i64 (z : Nat), zAq ad f.1] 109
theorem flV_bare (c eb : Nat) : flV ad (c, none) eb = zAq ad c := rfl
theorem flC_bare (c eb : Nat) : flC ad (c, none) eb = emp := rfl
theorem flV_at (c z eb : Nat) : flV ad (c, some z) eb = .iface 104 (.pointer (some ⟨eb, 0, none⟩)) := rfl
theorem flC_at (c z eb : Nat) : flC ad (c, some z) eb = cells eb [.int .i64 (z : Nat), zAq ad c] 109 := rfl
theorem zEd (w : World) : emp.ok (fun _ => False) w := fun _ h => h
/-- A result that is an error. -/
def RetF (ad : Nat → Addr) (f : Flt) (g : World) (L : List HP) : Value → World → Prop := fun v w' => ∃ eb, v = flV ad f eb ∧ Mem g w' (flC ad f eb :: L)
theorem RetF.bare {c : Nat} (hs : Mem g w L) : RetF ad (c, none) g L (zAq ad c) w := ⟨0, rfl, hs.addE (zEd w)⟩
section
variable {ρ : Env} {dst : Option Tmp} {ty : TypeId} {pos : String} {aft : Array Edge} {x : Operand} {u : TypeId} {f : Flt} {eb : Nat}
theorem run_eqF (hf : f.2 = none ∨ f.1 ≠ 0) (hx : ev ρ x = flV ad f eb) : (execOp (ev ρ) ⟨dst, .binOp .eql 27 x (.const .nilIface) u, ty, pos, aft, none⟩).run Tryz.prog w = .ok (.value (.bool (decide (f.1 = 0)))) w := by
  obtain ⟨c, z⟩ := f
  cases z with
  | none => exact zD3 hx
  | some z =>
    have hc : c ≠ 0 := by simpa using hf
    rw [flV_at] at hx; rw [show (decide (((c, some z) : Flt).1 = 0)) = false from decide_eq_false hc]; have hy : ev ρ (.const .nilIface) = .nilIface := rfl
    have hg : (eqGuard .eql 27 x (.const .nilIface) (.iface 104 (.pointer (some ⟨eb, 0, none⟩))) .nilIface).run Tryz.prog w = .ok () w := by cases x <;> rfl
    have hb : binOp .eql 27 (.iface 104 (.pointer (some ⟨eb, 0, none⟩))) .nilIface = (do pure (.bool (← Op.equal 27 (.iface 104 (.pointer (some ⟨eb, 0, none⟩))) .nilIface))) := rfl
    have he : (Op.equal 27 (.iface 104 (.pointer (some ⟨eb, 0, none⟩))) .nilIface).run Tryz.prog w = .ok false w := by
      show (Op.equalIn 10000 _ _ _).run Tryz.prog w = _
      rw [Op.equalIn]
      simp [run_underlying zCq]
    simp only [execOp, hx, hy, Sem.run_bind, hg, hb, he, Result.andThen_ok, Sem.run_pure]
theorem zF7 (hf : f.2 = none ∨ f.1 ≠ 0) (hx : ev ρ x = flV ad f eb) : (execOp (ev ρ) ⟨dst, .binOp .neq 27 x (.const .nilIface) u, ty, pos, aft, none⟩).run Tryz.prog w = .ok (.value (.bool (!decide (f.1 = 0)))) w := by
  obtain ⟨c, z⟩ := f
  cases z with
  | none => exact zAt hx
  | some z =>
    have hc : c ≠ 0 := by simpa using hf
    rw [flV_at] at hx; rw [show (decide (((c, some z) : Flt).1 = 0)) = false from decide_eq_false hc]; have hy : ev ρ (.const .nilIface) = .nilIface := rfl
    have hg : (eqGuard .neq 27 x (.const .nilIface) (.iface 104 (.pointer (some ⟨eb, 0, none⟩))) .nilIface).run Tryz.prog w = .ok () w := by cases x <;> rfl
    have hb : binOp .neq 27 (.iface 104 (.pointer (some ⟨eb, 0, none⟩))) .nilIface = (do pure (.bool (!(← Op.equal 27 (.iface 104 (.pointer (some ⟨eb, 0, none⟩))) .nilIface)))) := rfl
    have he : (Op.equal 27 (.iface 104 (.pointer (some ⟨eb, 0, none⟩))) .nilIface).run Tryz.prog w = .ok false w := by
      show (Op.equalIn 10000 _ _ _).run Tryz.prog w = _
      rw [Op.equalIn]
      simp [run_underlying zCq]
    simp only [execOp, hx, hy, Sem.run_bind, hg, hb, he, Result.andThen_ok, Sem.run_pure]
end
theorem FltOk.place {f : Flt} (h : FltOk f) : f.2 = none ∨ f.1 ≠ 0 := by
  rcases h.2 with h | h
  · exact .inl h
  · right; intro e; rw [e] at h; revert h; decide

/-! ### a manifest that can be read -/
structure MfR (g : World) (L : List HP) (x : Mf) (e o : SA) : Prop where
  eps : RdK g L 2 (.slice e.1 x.eps.length e.2) (x.eps.map prL)
  obs : RdK g L 3 (.slice o.1 x.obs.length o.2) (x.obs.map obL)
theorem MfR.cons {x : Mf} {e o : SA} {C : HP} (h : MfR g L x e o) : MfR g (C :: L) x e o := ⟨h.eps.cons, h.obs.cons⟩
/-- What the slices of a manifest are. -/
abbrev mfP (x : Mf) (e o : SA) : List HP := [zFp 2 (.slice e.1 x.eps.length e.2) (x.eps.map prL), zFp 3 (.slice o.1 x.obs.length o.2) (x.obs.map obL)]
theorem MfR.own {x : Mf} {e o : SA} (i j : Nat) (hi : L[i]? = some (zFp 2 (.slice e.1 x.eps.length e.2) (x.eps.map prL))) (hj : L[j]? = some (zFp 3 (.slice o.1 x.obs.length o.2) (x.obs.map obL))) : MfR g L x e o := ⟨RdK.row i hi, RdK.row j hj⟩
theorem zE4 {l : List Pr} {k : Nat} {x : Pr} (h : l[k]? = some x) : (l.map prL)[k]? = some (prL x) := by simp [h]
theorem obL_at {l : List Ob} {k : Nat} {x : Ob} (h : l[k]? = some x) : (l.map obL)[k]? = some (obL x) := by simp [h]
theorem prL_rows (l : List Pr) : ∀ r ∈ l.map prL, r.length = 2 ∧ ∀ u ∈ r, u.oneCell' = true := fun r hr => by
  obtain ⟨x, _, rfl⟩ := List.mem_map.1 hr; refine ⟨rfl, fun u hu => ?_⟩; simp only [prL, List.mem_cons, List.not_mem_nil, or_false] at hu
  rcases hu with rfl | rfl <;> rfl
theorem obL_rows (l : List Ob) : ∀ r ∈ l.map obL, r.length = 3 ∧ ∀ u ∈ r, u.oneCell' = true := fun r hr => by
  obtain ⟨x, _, rfl⟩ := List.mem_map.1 hr; refine ⟨rfl, fun u hu => ?_⟩; simp only [obL, List.mem_cons, List.not_mem_nil, or_false] at hu
  rcases hu with rfl | rfl | rfl <;> rfl

/-! ### a view -/
def itmV (i : Itm) (e o : SA) : Value := .agg (.int .i64 i.st :: mfL i.m e o).toArray
def itmC (v : Value) (i : Itm) : HP := ex fun s : SA × SA => also (stars (mfP i.m s.1 s.2)) (v = itmV i s.1 s.2)
theorem Mem.openItm {v : Value} {i : Itm} (hs : Mem g w (itmC v i :: L)) : ∃ e o, v = itmV i e o ∧ Mem g w (mfP i.m e o ++ L) := by
  obtain ⟨⟨e, o⟩, h⟩ := hs.unex; obtain ⟨h1, h2⟩ := h.unalso; exact ⟨e, o, h1, h2.unstars⟩
theorem Mem.closeItm {i : Itm} {e o : SA} (hs : Mem g w (mfP i.m e o ++ L)) : Mem g w (itmC (itmV i e o) i :: L) :=
  Mem.ex (f := fun s : SA × SA => Go.Proofs.YtdkgdjnbpjjfmaaGreatDoor.also (Go.Proofs.YtdkgdjnbpjjfmaaGreatDoor.stars (mfP i.m s.1 s.2)) (itmV i e o = itmV i s.1 s.2)) (e, o) (Mem.also rfl hs.stars)
structure Vw.ok (V : Vw) : Prop where
  nd : (zAl V).Nodup
  fine : ∀ x ∈ V, (mfF x.2.m).1 = 0 ∧ x.2.m.id = x.1 ∧ 1 ≤ x.2.st ∧ x.2.st ≤ 4
  few : V.length ≤ 4096
abbrev mapV (m : Nat) (es : List (Int × Value)) : HP := mapC (Value.int .i64) m es
abbrev viewP (p m : Nat) (es : List (Int × Value)) (V : Vw) : List HP := [cells p [.map (some m)] 79, mapV m es, famC itmC es V]
def zFm (p : Nat) (V : Vw) : HP := ex fun x : Nat × List (Int × Value) => also (stars (viewP p x.1 x.2 V)) V.ok
theorem Mem.openV {V : Vw} (hs : Mem g w (zFm p V :: L)) : V.ok ∧ ∃ m es, Mem g w (viewP p m es V ++ L) := by
  obtain ⟨⟨m, es⟩, h⟩ := hs.unex; obtain ⟨h1, h2⟩ := h.unalso; exact ⟨h1, m, es, h2.unstars⟩
theorem Mem.closeV {V : Vw} {m : Nat} {es : List (Int × Value)} (ho : V.ok) (hs : Mem g w (viewP p m es V ++ L)) : Mem g w (zFm p V :: L) :=
  Mem.ex (f := fun x : Nat × List (Int × Value) => Go.Proofs.YtdkgdjnbpjjfmaaGreatDoor.also (Go.Proofs.YtdkgdjnbpjjfmaaGreatDoor.stars (viewP p x.1 x.2 V)) V.ok) (m, es) (Mem.also ho hs.stars)
theorem Mem.closeV1 {C : HP} {V : Vw} {m : Nat} {es : List (Int × Value)} (ho : V.ok) (hs : Mem g w (C :: (viewP p m es V ++ L))) : Mem g w (C :: zFm p V :: L) :=
  (Mem.closeV (L := C :: L) ho (hs.arr [1, 2, 3, 0] 4 (by decide))).arr [1, 0] 2 (by decide)
theorem keys_len {κ α β : Type} {l : List (κ × α)} {m : List (κ × β)} (h : zAl l = zAl m) : l.length = m.length := by
  have := congrArg List.length h
  simpa [zAl] using this
end Go.Proofs.YtdkgdjnbpjjfmaaGreatDoor
namespace Go.Proofs.YtdkgdjnbpjjfmaaGreatDoor
set_option linter.all false
open Go.RowKit
attribute [local irreducible] zAq
variable {g w : World} {L M : List HP} {ad : Nat → Addr} {p : Nat}

/-! ### equality of pairs, of objects -/
section
variable {ρ : Env} {dst : Option Tmp} {ty : TypeId} {pos : String} {aft : Array Edge} {x y : Operand} {u : TypeId}
theorem equal_pr (a b : Pr) : (Op.equalIn 10000 141 (.agg (prL a).toArray) (.agg (prL b).toArray)).run Tryz.prog w = .ok (decide (a = b)) w := by
  have hS : Tryz.prog.underlying 141 = some (.struct (Tryz.prog.fieldsOf 141)) := by kernel_rfl
  have hp : Tryz.prog.stoodInHeld 141 = false := by kernel_rfl
  have u3 := uz3; have a3 := Tryz.isAgg3; have z3 := Tryz.sizeOf3; have u2 := uz2; have a2 := Tryz.isAgg2; have z2 := Tryz.sizeOf2; obtain ⟨a1, a2'⟩ := a; obtain ⟨b1, b2'⟩ := b; simp only [prL]; rw [show (10000 : Nat) = 9999 + 1 from rfl, run_equalIn_agg w 9999 141 _ _ hS hp]; simp only [Program.fieldsOf, zDk]
  go_simp
  by_cases h1 : a1 = b1 <;> by_cases h2 : a2' = b2' <;> simp [h1, h2]
theorem equal_ob (a b : Ob) : (Op.equalIn 10000 113 (.agg (obL a).toArray) (.agg (obL b).toArray)).run Tryz.prog w = .ok (decide (a = b)) w := by
  have hS : Tryz.prog.underlying 113 = some (.struct (Tryz.prog.fieldsOf 113)) := by kernel_rfl
  have hp : Tryz.prog.stoodInHeld 113 = false := by kernel_rfl
  have u3 := uz3; have a3 := Tryz.isAgg3; have z3 := Tryz.sizeOf3; have u2 := zDg; have a2 := Tryz.isAgg111; have z2 := Tryz.sizeOf111; have u9 := uz9; have a9 := Tryz.isAgg9; have z9 := Tryz.sizeOf9; obtain ⟨n1, a1, a2'⟩ := a; obtain ⟨n2, b1, b2'⟩ := b; simp only [obL]; rw [show (10000 : Nat) = 9999 + 1 from rfl, run_equalIn_agg w 9999 113 _ _ hS hp]; simp only [Program.fieldsOf, zCl]
  go_simp
  have hn : (n1.toList = n2.toList) ↔ n1 = n2 := by
    rw [ByteArray.toList_eq, ByteArray.toList_eq]
    constructor
    · intro e
      obtain ⟨⟨x⟩⟩ := n1; obtain ⟨⟨y⟩⟩ := n2; have e : x = y := e; rw [e]
    · intro e; rw [e]
  have hz : ((a2' : Int) = (b2' : Int)) ↔ a2' = b2' := by omega
  simp only [hn, hz]
  by_cases h0 : n1 = n2 <;> by_cases h1 : a1 = b1 <;> by_cases h2 : a2' = b2' <;> simp [h0, h1, h2]
theorem run_nePr {a b : Pr} (hx : ev ρ x = .agg (prL a).toArray) (hy : ev ρ y = .agg (prL b).toArray) : (execOp (ev ρ) ⟨dst, .binOp .neq 141 x y u, ty, pos, aft, none⟩).run Tryz.prog w = .ok (.value (.bool (!decide (a = b)))) w := by
  have hg : (eqGuard .neq 141 x y (.agg (prL a).toArray) (.agg (prL b).toArray)).run Tryz.prog w = .ok () w := run_eqGuard_agg w .neq _ x y _ _ (by kernel_rfl); simp only [execOp, hx, hy, Sem.run_bind, hg, run_neq_struct, equal_pr, Result.andThen_ok, Sem.run_pure]
theorem run_neOb {a b : Ob} (hx : ev ρ x = .agg (obL a).toArray) (hy : ev ρ y = .agg (obL b).toArray) : (execOp (ev ρ) ⟨dst, .binOp .neq 113 x y u, ty, pos, aft, none⟩).run Tryz.prog w = .ok (.value (.bool (!decide (a = b)))) w := by
  have hg : (eqGuard .neq 113 x y (.agg (obL a).toArray) (.agg (obL b).toArray)).run Tryz.prog w = .ok () w := run_eqGuard_agg w .neq _ x y _ _ (by kernel_rfl); simp only [execOp, hx, hy, Sem.run_bind, hg, run_neq_struct, equal_ob, Result.andThen_ok, Sem.run_pure]
end
theorem zEb (l : List Pr) : (l.map prL).length = l.length := by simp
theorem zF4 (l : List Ob) : (l.map obL).length = l.length := by simp
/-! ### right -/
theorem right_sl (hs : Mem g w L) (n : Int) : Calls Tryz.prog 83 #[.int .i64 n] w (Ret fun v w' => v = .bool (zE9 n) ∧ Mem g w' L) := by
  refine zAo Tryz.func83 rfl rfl ?_
  skip
  refine zA6 (zA1 ?_); refine zA rfl (zA2 (v := .bool _) rfl) ?_; refine zA4 (zA6 (zA1 ?_)); refine zA rfl (zA0 (v := .int .i64 _) rfl) ?_; refine zA rfl (zDd rfl rfl) ?_; refine zA rfl (zA0 (v := .bool _) rfl) ?_; refine zBa (t := _) (d := 5) rfl ?_ ?_
  ·
   intro h4; have g4 := of_decide_eq_true h4; refine zAi rfl rfl h4 ?_; refine zA rfl (zA0 (v := .int .i64 _) rfl) ?_; refine zAi rfl rfl h4 ?_; refine zA rfl (zDy rfl rfl) ?_; refine zA rfl (zAj (v := .bool _) rfl h4 rfl) ?_; refine zA rfl (zA2 (v := .bool _) rfl) ?_; refine zA4 ?_; refine zAg ?_; refine zBl (v := .bool _) rfl rfl ?_; exact ⟨_, rfl, zDa (by rw [Bool.eq_iff_iff]; simp [zE9]; omega), hs⟩
  ·
   intro h4; have g4 := of_decide_eq_false h4; refine zAc rfl rfl rfl h4 ?_; refine zAc rfl rfl rfl h4 ?_; refine zA rfl (zAk (v := .bool _) rfl h4 rfl) ?_; refine zA rfl (zA2 (v := .bool _) rfl) ?_; refine zA4 ?_; refine zAg ?_; refine zBl (v := .bool _) rfl rfl ?_; exact ⟨_, rfl, zDa (by rw [Bool.eq_iff_iff]; simp [zE9]; omega), hs⟩
theorem prRight_sl (hs : Mem g w L) (q : Pr) : Calls Tryz.prog 125 #[.agg (prL q).toArray] w (Ret fun v w' => v = .bool (prOk q) ∧ Mem g w' L) := by
  obtain ⟨a, b⟩ := q; refine zAo Tryz.func125 rfl rfl ?_
  skip
  refine zA6 (zA1 ?_); refine zCj (v := .agg _) hs rfl rfl ?_; clear hs; intro b1 w hs
  try simp only [List.set_cons_succ, List.set_cons_zero] at hs
  refine zA rfl (zA2 (v := .bool _) rfl) ?_; refine zA4 (zA6 (zA1 ?_)); refine zA rfl (zA3 (o' := 0) zDk rfl sz3 rfl rfl rfl) ?_; refine zA rfl (zA8 uz3 rfl rfl (hs.cellAt 0 rfl rfl)) ?_; refine zA rfl (zDd rfl rfl) ?_; refine zA rfl (zA0 (v := .bool _) rfl) ?_; refine zBa (t := _) (d := 6) rfl ?_ ?_
  ·
   intro h5; have g5 := of_decide_eq_true h5; refine zAi rfl rfl h5 ?_; refine zA rfl (zA3 (o' := 0) zDk rfl sz3 rfl rfl rfl) ?_; refine zAi rfl rfl h5 ?_; refine zA rfl (zA8 uz3 rfl rfl (hs.cellAt 0 rfl rfl)) ?_; refine zAi rfl rfl h5 ?_; refine zA rfl (zDy rfl rfl) ?_; refine zA rfl (zAj (v := .bool _) rfl h5 rfl) ?_; refine zA rfl (zA0 (v := .bool _) rfl) ?_; refine zBa (t := _) (d := 11) rfl ?_ ?_
   ·
    intro h9; have g9 := of_decide_eq_true h9; refine zAi rfl rfl h9 ?_; refine zA rfl (zA3 (o' := 1) zDk rfl sz2 rfl rfl rfl) ?_; refine zAi rfl rfl h9 ?_; refine zA rfl (zA8 uz2 rfl rfl (hs.cellAt 0 rfl rfl)) ?_; refine zAi rfl rfl h9 ?_; refine zA rfl (zDd rfl rfl) ?_; refine zA rfl (zAj (v := .bool _) rfl h9 rfl) ?_; refine zA rfl (zA0 (v := .bool _) rfl) ?_; refine zBa (t := _) (d := 16) rfl ?_ ?_
    ·
     intro h14; have g14 := of_decide_eq_true h14; refine zAi rfl rfl h14 ?_; refine zA rfl (zA3 (o' := 1) zDk rfl sz2 rfl rfl rfl) ?_; refine zAi rfl rfl h14 ?_; refine zA rfl (zA8 uz2 rfl rfl (hs.cellAt 0 rfl rfl)) ?_; refine zAi rfl rfl h14 ?_; refine zA rfl (zDy rfl rfl) ?_; refine zA rfl (zAj (v := .bool _) rfl h14 rfl) ?_; refine zA rfl (zA2 (v := .bool _) rfl) ?_; refine zA4 ?_; refine zAg ?_; refine zBl (v := .bool _) rfl rfl ?_; exact ⟨_, rfl, zDa (by rw [Bool.eq_iff_iff]; simp [prOk, rightE, zE9]; omega), hs.tail⟩
    ·
     intro h14; have g14 := of_decide_eq_false h14; refine zAc rfl rfl rfl h14 ?_; refine zAc rfl rfl rfl h14 ?_; refine zAc rfl rfl rfl h14 ?_; refine zA rfl (zAk (v := .bool _) rfl h14 rfl) ?_; refine zA rfl (zA2 (v := .bool _) rfl) ?_; refine zA4 ?_; refine zAg ?_; refine zBl (v := .bool _) rfl rfl ?_; exact ⟨_, rfl, zDa (by rw [Bool.eq_iff_iff]; simp [prOk, rightE, zE9]; omega), hs.tail⟩
   ·
    intro h9; have g9 := of_decide_eq_false h9; refine zAc rfl rfl rfl h9 ?_; refine zAc rfl rfl rfl h9 ?_; refine zAc rfl rfl rfl h9 ?_; refine zA rfl (zAk (v := .bool _) rfl h9 rfl) ?_; refine zA rfl (zA0 (v := .bool _) rfl) ?_; refine zAc rfl rfl rfl rfl ?_; refine zAc rfl rfl rfl rfl ?_; refine zAc rfl rfl rfl rfl ?_; refine zA rfl (zAk (v := .bool _) rfl rfl rfl) ?_; refine zA rfl (zA2 (v := .bool _) rfl) ?_; refine zA4 ?_; refine zAg ?_; refine zBl (v := .bool _) rfl rfl ?_; exact ⟨_, rfl, zDa (by rw [Bool.eq_iff_iff]; simp [prOk, rightE, zE9]; omega), hs.tail⟩
  ·
   intro h5; have g5 := of_decide_eq_false h5; refine zAc rfl rfl rfl h5 ?_; refine zAc rfl rfl rfl h5 ?_; refine zAc rfl rfl rfl h5 ?_; refine zA rfl (zAk (v := .bool _) rfl h5 rfl) ?_; refine zA rfl (zA0 (v := .bool _) rfl) ?_; refine zAc rfl rfl rfl rfl ?_; refine zAc rfl rfl rfl rfl ?_; refine zAc rfl rfl rfl rfl ?_; refine zA rfl (zAk (v := .bool _) rfl rfl rfl) ?_; refine zA rfl (zA0 (v := .bool _) rfl) ?_; refine zAc rfl rfl rfl rfl ?_; refine zAc rfl rfl rfl rfl ?_; refine zAc rfl rfl rfl rfl ?_; refine zA rfl (zAk (v := .bool _) rfl rfl rfl) ?_; refine zA rfl (zA2 (v := .bool _) rfl) ?_; refine zA4 ?_; refine zAg ?_; refine zBl (v := .bool _) rfl rfl ?_
   exact ⟨_, rfl, zDa (by rw [Bool.eq_iff_iff]; simp [prOk, rightE, zE9]; omega), hs.tail⟩
theorem prBad_sl (hs : Mem g w L) (q : Pr) : Calls Tryz.prog 124 #[.agg (prL q).toArray] w (Ret fun v w' => v = .bool (!prOk q) ∧ Mem g w' L) := by
  refine zAo Tryz.func124 rfl rfl ?_
  skip
  refine zA6 (zA1 ?_); refine zCj (v := .agg _) hs rfl rfl ?_; clear hs; intro b1 w hs
  try simp only [List.set_cons_succ, List.set_cons_zero] at hs
  refine zA rfl (zA2 (v := .bool _) rfl) ?_; refine zA4 (zA6 (zA1 ?_)); refine zA rfl (zBc hs 0 rfl zDk zEo rfl) ?_; refine zAb rfl en125 (prRight_sl hs q) ?_; clear hs; rintro _ w ⟨rfl, hs⟩; refine zA rfl (zC4 rfl) ?_; refine zA rfl (zA2 (v := .bool _) rfl) ?_; refine zA4 ?_; refine zAg ?_; refine zBl (v := .bool _) rfl rfl ?_; exact ⟨_, rfl, rfl, hs.tail⟩
theorem idxP_sl (hs : Mem g w L) {a : Option Addr} {n c : Nat} {l : List Pr} (hr : RdK g L 2 (.slice a n c) (l.map prL)) (hn : n = l.length) (hlen : l.length ≤ 1000000) : Calls Tryz.prog 153 #[.slice a n c, .func (.func 124) #[] #[]] w (Ret fun v w' => ∃ r : Int, (0 ≤ r ↔ l.all prOk = false) ∧ v = .int .i64 r ∧ Mem g w' L) := by
  subst hn; refine zAo Tryz.func153 rfl rfl ?_
  skip
  refine zA6 (zA1 ?_); refine zA rfl (zA2 (v := .int .i64 _) rfl) ?_; refine zA4 ?_; refine zA6 ?_; refine zA6 (zA1 ?_); refine zA rfl (zA0 (v := .slice _ _ _) rfl) ?_; refine zA rfl (zB2 zCx rfl) ?_; refine zA rfl (zA0 (v := .int .i64 _) rfl) ?_; refine zA4 ?_; refine zAw ?_; refine zBw (X := Nat) [4, 5, 8, 9, 10, 11, 12, 13, 14, 15, 16, 17, 18] (fun k => [(8, .int .i64 (k : Nat))]) (fun k w => k ≤ l.length ∧ (l.take k).all prOk = true ∧ Mem g w L) (fun k => l.length - k) (0) ?_ ?_ ?_
  · exact ⟨rfl, trivial⟩
  · exact ⟨Nat.zero_le _, rfl, hs⟩
  clear hs; rintro x ξ w hI; obtain ⟨hk, hq, hs⟩ := hI; refine zA6 (zA1 ?_); refine zA rfl (zB7 rfl rfl) ?_; refine zA4 ?_; refine zA6 ?_; refine zB8 rfl ?_ ?_
  ·
   intro h9; have g9 := of_decide_eq_true h9; obtain ⟨y, hy⟩ : ∃ y, l[x]? = some y := ⟨_, List.getElem?_eq_getElem (by omega)⟩; obtain ⟨b1, o1, rfl⟩ := hr.at hs (by rw [zEb]; omega); refine zAf ?_; refine zA6 ?_; refine zAw ?_; refine zA6 (zA1 ?_); refine zA rfl (zA0 (v := .int .i64 _) rfl) ?_; refine zA rfl (zA2 (v := .int .i64 _) rfl) ?_; refine zA4 (zA6 (zA1 ?_)); refine zA rfl (zA0 (v := .func _ _ _) rfl) ?_; refine zA rfl (zA0 (v := .slice _ _ _) rfl) ?_; refine zA rfl (zA0 (v := .int .i64 _) rfl) ?_; refine zA rfl (zB0 zCx zEo rfl rfl rfl (by omega) rfl) ?_; refine zA rfl (zD4 (cs := prL y) zDk zEo rfl (fun j v hj => hr.cell hs (zE4 hy) hj)) ?_
   refine zD2 rfl (cap := #[]) en124 rfl (prBad_sl hs y) ?_; clear hs; rintro _ w ⟨rfl, hs⟩; refine zA4 ?_; refine zB8 rfl ?_ ?_
   ·
    intro h16; refine zA6 (zA1 ?_); refine zA rfl (zA0 (v := .int .i64 _) rfl) ?_; refine zA rfl (zA2 (v := .int .i64 _) rfl) ?_; refine zA4 ?_; refine zAg ?_; refine zBl (v := .int .i64 _) rfl rfl ?_; exact ⟨_, rfl, (x : Nat), ⟨fun _ => Bool.eq_false_iff.2 (fun h => absurd ((List.all_eq_true.1 h y (List.mem_of_getElem? hy)).symm.trans (zFu h16)) (by decide)), fun _ => by omega⟩, rfl, hs⟩
   ·
    intro h16; refine zAf ?_; refine zA1 ?_; refine zA rfl (zAs rfl rfl rfl (inI (by omega) (by omega))) ?_; refine zA rfl (zA0 (v := .int .i64 _) rfl) ?_; refine zA4 ?_; exact ⟨x + 1, by omega, ⟨by omega, by rw [List.take_add_one, hy]; simp [hq, zEs h16], hs⟩, ⟨rfl, trivial⟩, by repeat (first | exact Out.mix _ _ _ | refine Out.updo rfl ?_ | refine Out.upd rfl ?_ | refine Out.mixIn rfl ?_)⟩
  ·
   intro h9; have g9 := of_decide_eq_false h9; refine zBg rfl ?_; refine zA6 (zA1 ?_); refine zA rfl (zA2 (v := .int .i64 _) rfl) ?_; refine zA4 ?_; refine zAg ?_; refine zBl (v := .int .i64 _) rfl rfl ?_
   have e : x = l.length := by omega
   rw [e, List.take_length] at hq; exact ⟨_, rfl, -1, ⟨fun h => by omega, fun h => by rw [hq] at h; cases h⟩, rfl, hs⟩
theorem conP_sl (hs : Mem g w L) {a : Option Addr} {n c : Nat} {l : List Pr} (hr : RdK g L 2 (.slice a n c) (l.map prL)) (hn : n = l.length) (hlen : l.length ≤ 1000000) : Calls Tryz.prog 123 #[.slice a n c, .func (.func 124) #[] #[]] w (Ret fun v w' => v = .bool (!l.all prOk) ∧ Mem g w' L) := by
  refine zAo Tryz.func123 rfl rfl ?_
  skip
  refine zA6 (zA1 ?_); refine zA rfl (zA2 (v := .bool _) rfl) ?_; refine zA4 (zA6 (zA1 ?_)); refine zA rfl (zA0 (v := .slice _ _ _) rfl) ?_; refine zA rfl (zA0 (v := .func _ _ _) rfl) ?_; refine zAb rfl en153 (idxP_sl hs hr hn hlen) ?_; clear hs; rintro _ w ⟨r, hr2, rfl, hs⟩; refine zA rfl (zDd rfl rfl) ?_; refine zA rfl (zA2 (v := .bool _) rfl) ?_; refine zA4 ?_; refine zAg ?_; refine zBl (v := .bool _) rfl rfl ?_; exact ⟨_, rfl, zDa (by cases h : l.all prOk; exact decide_eq_true (hr2.2 h); exact decide_eq_false (fun h2 => by rw [h] at hr2; exact absurd (hr2.1 h2) (by decide))), hs⟩
/-! ### copies -/
theorem clonePr_sl (hs : Mem g w L) {a : Option Addr} {n c : Nat} {l : List Pr} (hr : RdK g L 2 (.slice a n c) (l.map prL)) (hn : n = l.length) (hlen : l.length ≤ 1000000) : Calls Tryz.prog 88 #[.slice a n c] w (Ret fun v w' => ∃ s : SA, v = .slice s.1 l.length s.2 ∧ Mem g w' (zFp 2 (.slice s.1 l.length s.2) (l.map prL) :: L)) := by
  subst hn
  rcases Nat.eq_zero_or_pos l.length with h0 | h0
  · obtain rfl : l = [] := List.eq_nil_of_length_eq_zero h0
    cases a with
    | none =>
      refine zAo Tryz.func88 rfl rfl ?_
      skip
      refine zA6 (zA1 ?_); refine zA rfl (zA2 (v := .slice _ _ _) rfl) ?_; refine zA4 ?_; refine zA6 ?_; refine zA6 (zA1 ?_); refine zA rfl (zA0 (v := .slice _ _ _) rfl) ?_; refine zA rfl (run_eqsn zCx rfl rfl) ?_; refine zA4 ?_; refine zBb rfl (rfl) ?_; refine zA6 (zA1 ?_); refine zA rfl (zA2 (v := .slice _ _ _) rfl) ?_; refine zA4 ?_; refine zAg ?_; refine zBl (v := .slice _ _ _) rfl rfl ?_; exact ⟨_, rfl, (none, 0), rfl, hs.addE (zEg 2 _)⟩
    | some a =>
      refine zAo Tryz.func88 rfl rfl ?_
      skip
      refine zA6 (zA1 ?_); refine zA rfl (zA2 (v := .slice _ _ _) rfl) ?_; refine zA4 ?_; refine zA6 ?_; refine zA6 (zA1 ?_); refine zA rfl (zA0 (v := .slice _ _ _) rfl) ?_; refine zA rfl (run_eqsn zCx rfl rfl) ?_; refine zA4 ?_; refine zAx rfl (rfl) ?_; refine zAf ?_; refine zA6 (zA1 ?_); refine zFg (k := 2) hs rfl zCx in141 ?_; clear hs; intro b5 w hs; refine zA rfl (zA0 (v := .slice _ _ _) rfl) ?_; refine lw_appendRows0 rfl zCx in141 rfl rfl ((hr.cons _ hs).src zCx (by decide) (prL_rows [])) ?_; refine zA rfl (zA2 (v := .slice _ _ _) rfl) ?_; refine zA4 ?_; refine zAg ?_; refine zBl (v := .slice _ _ _) rfl rfl ?_; exact ⟨_, rfl, (some ⟨b5, 0, none⟩, 0), rfl, hs⟩
  · obtain ⟨b1, o1, rfl⟩ := hr.at hs (by rw [zEb]; omega)
    refine zAo Tryz.func88 rfl rfl ?_
    skip
    refine zA6 (zA1 ?_); refine zA rfl (zA2 (v := .slice _ _ _) rfl) ?_; refine zA4 ?_; refine zA6 ?_; refine zA6 (zA1 ?_); refine zA rfl (zA0 (v := .slice _ _ _) rfl) ?_; refine zA rfl (run_eqsn zCx rfl rfl) ?_; refine zA4 ?_; refine zAx rfl (rfl) ?_; refine zAf ?_; refine zA6 (zA1 ?_); refine zFg (k := 2) hs rfl zCx in141 ?_; clear hs; intro b5 w hs; refine zA rfl (zA0 (v := .slice _ _ _) rfl) ?_; refine lw_appendRows hs rfl 0 rfl (news := l.map prL) (by rw [zEb]; omega) zCx in141 rfl (prL_rows l) rfl rfl ((hr.cons _ hs).src zCx (by decide) (prL_rows l)) (by simp; omega) (by simp; omega) ?_; clear hs; intro a7 c7 w hs
    simp only [List.set_cons_succ, List.set_cons_zero, List.length_nil, zEb, Nat.zero_add, List.nil_append] at hs ⊢; refine zA rfl (zA2 (v := .slice _ _ _) rfl) ?_; refine zA4 ?_; refine zAg ?_; refine zBl (v := .slice _ _ _) rfl rfl ?_; exact ⟨_, rfl, (a7, c7), rfl, hs⟩
end Go.Proofs.YtdkgdjnbpjjfmaaGreatDoor
namespace Go.Proofs.YtdkgdjnbpjjfmaaGreatDoor
set_option linter.all false
open Go.RowKit
attribute [local irreducible] zAq
variable {g w : World} {L M : List HP} {ad : Nat → Addr} {p : Nat}

theorem RdK.take {k n c hi : Nat} {a : Option Addr} {rows : List (List Value)} (h : RdK g L k (.slice a n c) rows) (h2 : hi ≤ n) : RdK g L k (.slice a hi c) (rows.take hi) := fun w hs => by
  obtain ⟨a', n', c', hv, hn, hnc, h⟩ := h w hs
  cases hv
  refine ⟨_, _, _, rfl, by rw [List.length_take]; omega, by omega, ?_⟩
  rcases h with rfl | ⟨b, off, rfl, hb, h⟩
  · exact .inl (by simp)
  · refine .inr ⟨b, off, rfl, hb, fun q row hq j v hj => h q row ?_ j v hj⟩
    rw [List.getElem?_take] at hq
    split at hq
    · exact hq
    · cases hq
theorem cloneOb_sl (hs : Mem g w L) {a : Option Addr} {n c : Nat} {l : List Ob} (hr : RdK g L 3 (.slice a n c) (l.map obL)) (hn : n = l.length) (hlen : l.length ≤ 1000000) : Calls Tryz.prog 89 #[.slice a n c] w (Ret fun v w' => ∃ s : SA, v = .slice s.1 l.length s.2 ∧ Mem g w' (zFp 3 (.slice s.1 l.length s.2) (l.map obL) :: L)) := by
  subst hn
  rcases Nat.eq_zero_or_pos l.length with h0 | h0
  · obtain rfl : l = [] := List.eq_nil_of_length_eq_zero h0
    cases a with
    | none =>
      refine zAo Tryz.func89 rfl rfl ?_
      skip
      refine zA6 (zA1 ?_); refine zA rfl (zA2 (v := .slice _ _ _) rfl) ?_; refine zA4 ?_; refine zA6 ?_; refine zA6 (zA1 ?_); refine zA rfl (zA0 (v := .slice _ _ _) rfl) ?_; refine zA rfl (run_eqsn zBp rfl rfl) ?_; refine zA4 ?_; refine zBb rfl (rfl) ?_; refine zA6 (zA1 ?_); refine zA rfl (zA2 (v := .slice _ _ _) rfl) ?_; refine zA4 ?_; refine zAg ?_; refine zBl (v := .slice _ _ _) rfl rfl ?_; exact ⟨_, rfl, (none, 0), rfl, hs.addE (zEg 3 _)⟩
    | some a =>
      refine zAo Tryz.func89 rfl rfl ?_
      skip
      refine zA6 (zA1 ?_); refine zA rfl (zA2 (v := .slice _ _ _) rfl) ?_; refine zA4 ?_; refine zA6 ?_; refine zA6 (zA1 ?_); refine zA rfl (zA0 (v := .slice _ _ _) rfl) ?_; refine zA rfl (run_eqsn zBp rfl rfl) ?_; refine zA4 ?_; refine zAx rfl (rfl) ?_; refine zAf ?_; refine zA6 (zA1 ?_); refine zFg (k := 3) hs rfl zBp zD8 ?_; clear hs; intro b5 w hs; refine zA rfl (zA0 (v := .slice _ _ _) rfl) ?_; refine lw_appendRows0 rfl zBp zD8 rfl rfl ((hr.cons _ hs).src zBp (by decide) (obL_rows [])) ?_; refine zA rfl (zA2 (v := .slice _ _ _) rfl) ?_; refine zA4 ?_; refine zAg ?_; refine zBl (v := .slice _ _ _) rfl rfl ?_; exact ⟨_, rfl, (some ⟨b5, 0, none⟩, 0), rfl, hs⟩
  · obtain ⟨b1, o1, rfl⟩ := hr.at hs (by rw [zF4]; omega)
    refine zAo Tryz.func89 rfl rfl ?_
    skip
    refine zA6 (zA1 ?_); refine zA rfl (zA2 (v := .slice _ _ _) rfl) ?_; refine zA4 ?_; refine zA6 ?_; refine zA6 (zA1 ?_); refine zA rfl (zA0 (v := .slice _ _ _) rfl) ?_; refine zA rfl (run_eqsn zBp rfl rfl) ?_; refine zA4 ?_; refine zAx rfl (rfl) ?_; refine zAf ?_; refine zA6 (zA1 ?_); refine zFg (k := 3) hs rfl zBp zD8 ?_; clear hs; intro b5 w hs; refine zA rfl (zA0 (v := .slice _ _ _) rfl) ?_; refine lw_appendRows hs rfl 0 rfl (news := l.map obL) (by rw [zF4]; omega) zBp zD8 rfl (obL_rows l) rfl rfl ((hr.cons _ hs).src zBp (by decide) (obL_rows l)) (by simp; omega) (by simp; omega) ?_; clear hs; intro a7 c7 w hs
    simp only [List.set_cons_succ, List.set_cons_zero, List.length_nil, zF4, Nat.zero_add, List.nil_append] at hs ⊢; refine zA rfl (zA2 (v := .slice _ _ _) rfl) ?_; refine zA4 ?_; refine zAg ?_; refine zBl (v := .slice _ _ _) rfl rfl ?_; exact ⟨_, rfl, (a7, c7), rfl, hs⟩
theorem eqPr_sl (hs : Mem g w L) {a b : Option Addr} {n m c d : Nat} {la lb : List Pr} (ha : RdK g L 2 (.slice a n c) (la.map prL)) (hb : RdK g L 2 (.slice b m d) (lb.map prL)) (hn : n = la.length) (hm : m = lb.length) (hlen : la.length ≤ 1000000) :
    Calls Tryz.prog 86 #[.slice a n c, .slice b m d] w (Ret fun v w' => v = .bool (decide (la = lb)) ∧ Mem g w' L) := by
  subst hn hm; refine zAo Tryz.func86 rfl rfl ?_
  skip
  refine zA6 (zA1 ?_); refine zA rfl (zA2 (v := .bool _) rfl) ?_; refine zA4 ?_; refine zA6 ?_; refine zA6 (zA1 ?_); refine zA rfl (zA0 (v := .slice _ _ _) rfl) ?_; refine zA rfl (zB2 zCx rfl) ?_; refine zA rfl (zA0 (v := .slice _ _ _) rfl) ?_; refine zA rfl (zB2 zCx rfl) ?_; refine zA rfl (zDh rfl rfl) ?_; refine zA4 ?_; refine zB8 rfl ?_ ?_
  ·
   intro h10; have g10 := ne_t h10; refine zA6 (zA1 ?_); refine zA rfl (zA2 (v := .bool _) rfl) ?_; refine zA4 ?_; refine zAg ?_; refine zBl (v := .bool _) rfl rfl ?_; exact ⟨_, rfl, zDa (by rw [decide_eq_false (fun e => g10 (by rw [e]))]), hs⟩
  ·
   intro h10; have g10 := ne_f h10; refine zAf ?_; refine zA6 ?_; refine zA6 (zA1 ?_); refine zA rfl (zA0 (v := .slice _ _ _) rfl) ?_; refine zA rfl (zB2 zCx rfl) ?_; refine zA rfl (zA0 (v := .int .i64 _) rfl) ?_; refine zA4 ?_; refine zAw ?_; refine zBw (X := Nat) [4, 5, 13, 14, 15, 16, 17, 18, 19, 20, 21, 22, 23, 24, 25] (fun k => [(13, .int .i64 (k : Nat))]) (fun k w => k ≤ la.length ∧ la.take k = lb.take k ∧ Mem g w L) (fun k => la.length - k) (0) ?_ ?_ ?_
   · exact ⟨rfl, trivial⟩
   · exact ⟨Nat.zero_le _, rfl, hs⟩
   clear hs; rintro x ξ w hI; obtain ⟨hk, hq, hs⟩ := hI; refine zA6 (zA1 ?_); refine zA rfl (zB7 rfl rfl) ?_; refine zA4 ?_; refine zA6 ?_; refine zB8 rfl ?_ ?_
   ·
    intro h14; have g14 := of_decide_eq_true h14; obtain ⟨xa, hxa⟩ : ∃ xa, la[x]? = some xa := ⟨la[x]'(by omega), List.getElem?_eq_getElem _⟩; obtain ⟨xb, hxb⟩ : ∃ xb, lb[x]? = some xb := ⟨lb[x]'(by omega), List.getElem?_eq_getElem _⟩; obtain ⟨b1, o1, rfl⟩ := ha.at hs (by rw [zEb]; omega); obtain ⟨b2, o2, rfl⟩ := hb.at hs (by rw [zEb]; omega); refine zAf ?_; refine zA6 ?_; refine zAw ?_; refine zA6 (zA1 ?_); refine zA rfl (zA0 (v := .int .i64 _) rfl) ?_; refine zA rfl (zA2 (v := .int .i64 _) rfl) ?_; refine zA4 ?_; refine zA6 ?_; refine zAy zBv hs ?_; intro w tr hK; replace hs := tr _ hs; clear tr; refine zA5 0 rfl rfl (fun w hs => zA0 (v := .slice _ _ _) rfl) hK ?_
    refine zA5 1 rfl rfl (fun w hs => zA0 (v := .int .i64 _) rfl) hK ?_; refine zA5 2 rfl rfl (fun w hs => zB0 zCx zEo rfl rfl rfl (by omega) rfl) hK ?_; refine zA5 3 rfl rfl (fun w hs => zD4 (cs := prL xa) zDk zEo rfl (fun j v hj => ha.cell hs (zE4 hxa) hj)) hK ?_; refine zA5 4 rfl rfl (fun w hs => zA0 (v := .slice _ _ _) rfl) hK ?_; refine zA5 5 rfl rfl (fun w hs => zA0 (v := .int .i64 _) rfl) hK ?_; refine zA5 6 rfl rfl (fun w hs => zB0 zCx zEo rfl rfl rfl (by omega) rfl) hK ?_; refine zA5 7 rfl rfl (fun w hs => zD4 (cs := prL xb) zDk zEo rfl (fun j v hj => hb.cell hs (zE4 hxb) hj)) hK ?_
    refine @aw_take _ _ _ _ _ _ _ _ _ _ _ _ _ _ 8 _ rfl (by kernel_rfl) (by kernel_rfl) (by kernel_rfl) rfl (fun w hs => run_nePr (a := xa) (b := xb) rfl rfl) hK ?_; refine zAp (by kernel_rfl) ?_; clear hK; refine zB8 rfl ?_ ?_
    ·
     intro h24; refine zA6 (zA1 ?_); refine zA rfl (zA2 (v := .bool _) rfl) ?_; refine zA4 ?_; refine zAg ?_; refine zBl (v := .bool _) rfl rfl ?_; exact ⟨_, rfl, zDa (by rw [decide_eq_false (fun e => by subst e; rw [hxa] at hxb; cases hxb; simp at h24)]), hs⟩
    ·
     intro h24; refine zAf ?_; refine zA1 ?_; refine zA rfl (zAs rfl rfl rfl (inI (by omega) (by omega))) ?_; refine zA rfl (zA0 (v := .int .i64 _) rfl) ?_; refine zA4 ?_; exact ⟨x + 1, by omega, ⟨by omega, by rw [List.take_add_one, List.take_add_one, hxa, hxb, hq, of_decide_eq_true (zEs h24)], hs⟩, ⟨rfl, trivial⟩, by repeat (first | exact Out.mix _ _ _ | refine Out.updo rfl ?_ | refine Out.upd rfl ?_ | refine Out.mixIn rfl ?_)⟩
   ·
    intro h14; have g14 := of_decide_eq_false h14; refine zBg rfl ?_; refine zA6 (zA1 ?_); refine zA rfl (zA2 (v := .bool _) rfl) ?_; refine zA4 ?_; refine zAg ?_; refine zBl (v := .bool _) rfl rfl ?_
    have h1 : x = la.length := by omega
    rw [h1, List.take_of_length_le (Nat.le_refl _), List.take_of_length_le (by omega)] at hq; exact ⟨_, rfl, zDa (decide_eq_true hq).symm, hs⟩
theorem eqOb_sl (hs : Mem g w L) {a b : Option Addr} {n m c d : Nat} {la lb : List Ob} (ha : RdK g L 3 (.slice a n c) (la.map obL)) (hb : RdK g L 3 (.slice b m d) (lb.map obL)) (hn : n = la.length) (hm : m = lb.length) (hlen : la.length ≤ 1000000) :
    Calls Tryz.prog 87 #[.slice a n c, .slice b m d] w (Ret fun v w' => v = .bool (decide (la = lb)) ∧ Mem g w' L) := by
  subst hn hm; refine zAo Tryz.func87 rfl rfl ?_
  skip
  refine zA6 (zA1 ?_); refine zA rfl (zA2 (v := .bool _) rfl) ?_; refine zA4 ?_; refine zA6 ?_; refine zA6 (zA1 ?_); refine zA rfl (zA0 (v := .slice _ _ _) rfl) ?_; refine zA rfl (zB2 zBp rfl) ?_; refine zA rfl (zA0 (v := .slice _ _ _) rfl) ?_; refine zA rfl (zB2 zBp rfl) ?_; refine zA rfl (zDh rfl rfl) ?_; refine zA4 ?_; refine zB8 rfl ?_ ?_
  ·
   intro h10; have g10 := ne_t h10; refine zA6 (zA1 ?_); refine zA rfl (zA2 (v := .bool _) rfl) ?_; refine zA4 ?_; refine zAg ?_; refine zBl (v := .bool _) rfl rfl ?_; exact ⟨_, rfl, zDa (by rw [decide_eq_false (fun e => g10 (by rw [e]))]), hs⟩
  ·
   intro h10; have g10 := ne_f h10; refine zAf ?_; refine zA6 ?_; refine zA6 (zA1 ?_); refine zA rfl (zA0 (v := .slice _ _ _) rfl) ?_; refine zA rfl (zB2 zBp rfl) ?_; refine zA rfl (zA0 (v := .int .i64 _) rfl) ?_; refine zA4 ?_; refine zAw ?_; refine zBw (X := Nat) [4, 5, 13, 14, 15, 16, 17, 18, 19, 20, 21, 22, 23, 24, 25] (fun k => [(13, .int .i64 (k : Nat))]) (fun k w => k ≤ la.length ∧ la.take k = lb.take k ∧ Mem g w L) (fun k => la.length - k) (0) ?_ ?_ ?_
   · exact ⟨rfl, trivial⟩
   · exact ⟨Nat.zero_le _, rfl, hs⟩
   clear hs; rintro x ξ w hI; obtain ⟨hk, hq, hs⟩ := hI; refine zA6 (zA1 ?_); refine zA rfl (zB7 rfl rfl) ?_; refine zA4 ?_; refine zA6 ?_; refine zB8 rfl ?_ ?_
   ·
    intro h14; have g14 := of_decide_eq_true h14; obtain ⟨xa, hxa⟩ : ∃ xa, la[x]? = some xa := ⟨la[x]'(by omega), List.getElem?_eq_getElem _⟩; obtain ⟨xb, hxb⟩ : ∃ xb, lb[x]? = some xb := ⟨lb[x]'(by omega), List.getElem?_eq_getElem _⟩; obtain ⟨b1, o1, rfl⟩ := ha.at hs (by rw [zF4]; omega); obtain ⟨b2, o2, rfl⟩ := hb.at hs (by rw [zF4]; omega); refine zAf ?_; refine zA6 ?_; refine zAw ?_; refine zA6 (zA1 ?_); refine zA rfl (zA0 (v := .int .i64 _) rfl) ?_; refine zA rfl (zA2 (v := .int .i64 _) rfl) ?_; refine zA4 ?_; refine zA6 ?_; refine zAy zBv hs ?_; intro w tr hK; replace hs := tr _ hs; clear tr; refine zA5 0 rfl rfl (fun w hs => zA0 (v := .slice _ _ _) rfl) hK ?_
    refine zA5 1 rfl rfl (fun w hs => zA0 (v := .int .i64 _) rfl) hK ?_; refine zA5 2 rfl rfl (fun w hs => zB0 zBp zFn rfl rfl rfl (by omega) rfl) hK ?_; refine zA5 3 rfl rfl (fun w hs => zD4 (cs := obL xa) zCl zFn rfl (fun j v hj => ha.cell hs (obL_at hxa) hj)) hK ?_; refine zA5 4 rfl rfl (fun w hs => zA0 (v := .slice _ _ _) rfl) hK ?_; refine zA5 5 rfl rfl (fun w hs => zA0 (v := .int .i64 _) rfl) hK ?_; refine zA5 6 rfl rfl (fun w hs => zB0 zBp zFn rfl rfl rfl (by omega) rfl) hK ?_; refine zA5 7 rfl rfl (fun w hs => zD4 (cs := obL xb) zCl zFn rfl (fun j v hj => hb.cell hs (obL_at hxb) hj)) hK ?_
    refine @aw_take _ _ _ _ _ _ _ _ _ _ _ _ _ _ 8 _ rfl (by kernel_rfl) (by kernel_rfl) (by kernel_rfl) rfl (fun w hs => run_neOb (a := xa) (b := xb) rfl rfl) hK ?_; refine zAp (by kernel_rfl) ?_; clear hK; refine zB8 rfl ?_ ?_
    ·
     intro h24; refine zA6 (zA1 ?_); refine zA rfl (zA2 (v := .bool _) rfl) ?_; refine zA4 ?_; refine zAg ?_; refine zBl (v := .bool _) rfl rfl ?_; exact ⟨_, rfl, zDa (by rw [decide_eq_false (fun e => by subst e; rw [hxa] at hxb; cases hxb; simp at h24)]), hs⟩
    ·
     intro h24; refine zAf ?_; refine zA1 ?_; refine zA rfl (zAs rfl rfl rfl (inI (by omega) (by omega))) ?_; refine zA rfl (zA0 (v := .int .i64 _) rfl) ?_; refine zA4 ?_; exact ⟨x + 1, by omega, ⟨by omega, by rw [List.take_add_one, List.take_add_one, hxa, hxb, hq, of_decide_eq_true (zEs h24)], hs⟩, ⟨rfl, trivial⟩, by repeat (first | exact Out.mix _ _ _ | refine Out.updo rfl ?_ | refine Out.upd rfl ?_ | refine Out.mixIn rfl ?_)⟩
   ·
    intro h14; have g14 := of_decide_eq_false h14; refine zBg rfl ?_; refine zA6 (zA1 ?_); refine zA rfl (zA2 (v := .bool _) rfl) ?_; refine zA4 ?_; refine zAg ?_; refine zBl (v := .bool _) rfl rfl ?_
    have h1 : x = la.length := by omega
    rw [h1, List.take_of_length_le (Nat.le_refl _), List.take_of_length_le (by omega)] at hq; exact ⟨_, rfl, zDa (decide_eq_true hq).symm, hs⟩
theorem sameNm_sl {o : Ob} {bo : Nat} {T : TypeId} (hs : Mem g w (cells bo (obL o) T :: L)) (y : Ob) : Calls Tryz.prog 127 #[.agg (obL y).toArray, .pointer (some ⟨bo, 0, none⟩)] w (Ret fun v w' => v = .bool (decide (y.1 = o.1)) ∧ Mem g w' (cells bo (obL o) T :: L)) := by
  refine zAo Tryz.func127 rfl rfl ?_
  skip
  refine zA6 (zA1 ?_); refine zCj (v := .agg _) hs rfl rfl ?_; clear hs; intro b2 w hs
  try simp only [List.set_cons_succ, List.set_cons_zero] at hs
  refine zA rfl (zA2 (v := .bool _) rfl) ?_; refine zA4 (zA6 (zA1 ?_)); refine zA rfl (zA3 (o' := 0) zCl rfl sz9 rfl rfl rfl) ?_; refine zA rfl (zA8 uz9 rfl rfl (hs.cellAt 0 rfl rfl)) ?_; refine zA rfl (zA3 (o' := 0) zCl rfl sz9 rfl rfl rfl) ?_; refine zA rfl (zA8 uz9 rfl rfl (hs.cellAt 1 rfl rfl)) ?_; refine zA rfl (run_eqs rfl rfl) ?_; refine zA rfl (zA2 (v := .bool _) rfl) ?_; refine zA4 ?_; refine zAg ?_; refine zBl (v := .bool _) rfl rfl ?_; exact ⟨_, rfl, rfl, hs.tail⟩
theorem idxO_sl {o : Ob} {bo : Nat} {T : TypeId} (hs : Mem g w (cells bo (obL o) T :: L)) {a : Option Addr} {n c : Nat} {l : List Ob} (hr : RdK g (cells bo (obL o) T :: L) 3 (.slice a n c) (l.map obL)) (hn : n = l.length) (hlen : l.length ≤ 1000000) : Calls Tryz.prog 154 #[.slice a n c, .func (.func 127) #[] #[.pointer (some ⟨bo, 0, none⟩)]] w (Ret fun v w' => ∃ r : Int, (0 ≤ r ↔ (l.any fun y => decide (y.1 = o.1)) = true) ∧ v = .int .i64 r ∧ Mem g w' (cells bo (obL o) T :: L)) := by
  subst hn; refine zAo Tryz.func154 rfl rfl ?_
  skip
  refine zA6 (zA1 ?_); refine zA rfl (zA2 (v := .int .i64 _) rfl) ?_; refine zA4 ?_; refine zA6 ?_; refine zA6 (zA1 ?_); refine zA rfl (zA0 (v := .slice _ _ _) rfl) ?_; refine zA rfl (zB2 zBp rfl) ?_; refine zA rfl (zA0 (v := .int .i64 _) rfl) ?_; refine zA4 ?_; refine zAw ?_; refine zBw (X := Nat) [4, 5, 8, 9, 10, 11, 12, 13, 14, 15, 16, 17, 18] (fun k => [(8, .int .i64 (k : Nat))]) (fun k w => k ≤ l.length ∧ ((l.take k).any fun y => decide (y.1 = o.1)) = false ∧ Mem g w (cells bo (obL o) T :: L)) (fun k => l.length - k) (0) ?_ ?_ ?_
  · exact ⟨rfl, trivial⟩
  · exact ⟨Nat.zero_le _, rfl, hs⟩
  clear hs; rintro x ξ w hI; obtain ⟨hk, hq, hs⟩ := hI; refine zA6 (zA1 ?_); refine zA rfl (zB7 rfl rfl) ?_; refine zA4 ?_; refine zA6 ?_; refine zB8 rfl ?_ ?_
  ·
   intro h9; have g9 := of_decide_eq_true h9; obtain ⟨y, hy⟩ : ∃ y, l[x]? = some y := ⟨_, List.getElem?_eq_getElem (by omega)⟩; obtain ⟨b1, o1, rfl⟩ := hr.at hs (by rw [zF4]; omega); refine zAf ?_; refine zA6 ?_; refine zAw ?_; refine zA6 (zA1 ?_); refine zA rfl (zA0 (v := .int .i64 _) rfl) ?_; refine zA rfl (zA2 (v := .int .i64 _) rfl) ?_; refine zA4 (zA6 (zA1 ?_)); refine zA rfl (zA0 (v := .func _ _ _) rfl) ?_; refine zA rfl (zA0 (v := .slice _ _ _) rfl) ?_; refine zA rfl (zA0 (v := .int .i64 _) rfl) ?_; refine zA rfl (zB0 zBp zFn rfl rfl rfl (by omega) rfl) ?_; refine zA rfl (zD4 (cs := obL y) zCl zFn rfl (fun j v hj => hr.cell hs (obL_at hy) hj)) ?_
   refine zD2 rfl (cap := #[.pointer (some ⟨bo, 0, none⟩)]) en127 rfl (sameNm_sl hs y) ?_; clear hs; rintro _ w ⟨rfl, hs⟩; refine zA4 ?_; refine zB8 rfl ?_ ?_
   ·
    intro h16; refine zA6 (zA1 ?_); refine zA rfl (zA0 (v := .int .i64 _) rfl) ?_; refine zA rfl (zA2 (v := .int .i64 _) rfl) ?_; refine zA4 ?_; refine zAg ?_; refine zBl (v := .int .i64 _) rfl rfl ?_; exact ⟨_, rfl, (x : Nat), ⟨fun _ => List.any_eq_true.2 ⟨y, List.mem_of_getElem? hy, h16⟩, fun _ => by omega⟩, rfl, hs⟩
   ·
    intro h16; refine zAf ?_; refine zA1 ?_; refine zA rfl (zAs rfl rfl rfl (inI (by omega) (by omega))) ?_; refine zA rfl (zA0 (v := .int .i64 _) rfl) ?_; refine zA4 ?_; exact ⟨x + 1, by omega, ⟨by omega, by rw [List.take_add_one, hy, List.any_append, hq]; simpa using h16, hs⟩, ⟨rfl, trivial⟩, by repeat (first | exact Out.mix _ _ _ | refine Out.updo rfl ?_ | refine Out.upd rfl ?_ | refine Out.mixIn rfl ?_)⟩
  ·
   intro h9; have g9 := of_decide_eq_false h9; refine zBg rfl ?_; refine zA6 (zA1 ?_); refine zA rfl (zA2 (v := .int .i64 _) rfl) ?_; refine zA4 ?_; refine zAg ?_; refine zBl (v := .int .i64 _) rfl rfl ?_
   have e : x = l.length := by omega
   rw [e, List.take_length] at hq; exact ⟨_, rfl, -1, ⟨fun h => by omega, fun h => by rw [hq] at h; cases h⟩, rfl, hs⟩
theorem conO_sl {o : Ob} {bo : Nat} {T : TypeId} (hs : Mem g w (cells bo (obL o) T :: L)) {a : Option Addr} {n c : Nat} {l : List Ob} (hr : RdK g (cells bo (obL o) T :: L) 3 (.slice a n c) (l.map obL)) (hn : n = l.length) (hlen : l.length ≤ 1000000) : Calls Tryz.prog 126 #[.slice a n c, .func (.func 127) #[] #[.pointer (some ⟨bo, 0, none⟩)]] w (Ret fun v w' => v = .bool (l.any fun y => decide (y.1 = o.1)) ∧ Mem g w' (cells bo (obL o) T :: L)) := by
  refine zAo Tryz.func126 rfl rfl ?_
  skip
  refine zA6 (zA1 ?_); refine zA rfl (zA2 (v := .bool _) rfl) ?_; refine zA4 (zA6 (zA1 ?_)); refine zA rfl (zA0 (v := .slice _ _ _) rfl) ?_; refine zA rfl (zA0 (v := .func _ _ _) rfl) ?_; refine zAb rfl en154 (idxO_sl hs hr hn hlen) ?_; clear hs; rintro _ w ⟨r, hr2, rfl, hs⟩; refine zA rfl (zDd rfl rfl) ?_; refine zA rfl (zA2 (v := .bool _) rfl) ?_; refine zA4 ?_; refine zAg ?_; refine zBl (v := .bool _) rfl rfl ?_; exact ⟨_, rfl, zDa (by cases h : (l.any fun y => decide (y.1 = o.1)); exact decide_eq_false (fun h2 => by rw [h] at hr2; exact absurd (hr2.1 h2) (by decide)); exact decide_eq_true (hr2.2 h)), hs⟩
end Go.Proofs.YtdkgdjnbpjjfmaaGreatDoor
namespace Go.Proofs.YtdkgdjnbpjjfmaaGreatDoor
set_option linter.all false
open Go.RowKit
attribute [local irreducible] zAq
variable {g w : World} {L M : List HP} {ad : Nat → Addr} {p : Nat}

def viewCodes : List Nat := [103, 104, 105, 106, 112, 113]
abbrev ErrV (ad : Nat → Addr) (g : World) : Prop := Errs viewCodes ad g.heap.size g
theorem risAt_eq {l : List Pr} {i : Nat} {a b : Pr} (ha : l[i - 1]? = some a) (hb : l[i]? = some b) : risAt l i = (decide (a.1 < b.1) && decide (a.2 < b.2)) := by
  simp only [risAt, List.getD_eq_getElem?_getD, ha, hb, Option.getD_some]
theorem epNew_sl (hE : ErrV ad g) (hs : Mem g w L) {a : Option Addr} {n c : Nat} {l : List Pr} (hr : RdK g L 2 (.slice a n c) (l.map prL)) (hn : n = l.length) : Calls Tryz.prog 84 #[.slice a n c] w (Ret fun v w' => ∃ q, v = .tuple #[.pointer q, zAq ad (epF l)] ∧ Mem g w' L) := by
  subst hn; refine zAo Tryz.func84 rfl rfl ?_
  skip
  refine zA6 (zA1 ?_); refine zA rfl (zA2 (v := .pointer none) rfl) ?_; refine zA rfl (zA2 (v := .nilIface) rfl) ?_; refine zA4 ?_; refine zA6 ?_; refine zA6 (zA1 ?_); refine zA rfl (zA0 (v := .slice _ _ _) rfl) ?_; refine zA rfl (zB2 zCx rfl) ?_; refine zA rfl (zBi rfl rfl) ?_; refine zA4 ?_; refine zB8 rfl ?_ ?_
  ·
   intro h7; have g7 := of_decide_eq_true h7; refine zA6 ?_; refine zAy zBv hs ?_; intro w tr hK; replace hs := tr _ hs; clear tr; refine zA5 0 rfl rfl (fun w hs => zA8 zCq rfl rfl (hE.cellW hs 104 (by decide) rfl)) hK ?_; refine zA5 1 rfl rfl (fun w hs => zA2 (v := .pointer none) rfl) hK ?_; refine zA5 2 rfl rfl (fun w hs => zA2 (v := zAq ad _) rfl) hK ?_; refine zAp (by kernel_rfl) ?_; clear hK; refine zAg ?_; refine res2 (v := .pointer none) (v2 := zAq ad _) rfl rfl rfl ?_; exact ⟨_, rfl, none, by rw [epF, if_pos (by omega)], hs⟩
  ·
   intro h7; have g7 := of_decide_eq_false h7; refine zAf ?_; refine zA6 ?_; refine zA6 (zA1 ?_); refine zA rfl (zA0 (v := .slice _ _ _) rfl) ?_; refine zAb rfl en123 (conP_sl hs hr rfl (by omega)) ?_; clear hs; rintro _ w ⟨rfl, hs⟩; refine zA4 ?_; refine zB8 rfl ?_ ?_
   ·
    intro h10; refine zA6 ?_; refine zAy zBv hs ?_; intro w tr hK; replace hs := tr _ hs; clear tr; refine zA5 0 rfl rfl (fun w hs => zA8 zCq rfl rfl (hE.cellW hs 105 (by decide) rfl)) hK ?_; refine zA5 1 rfl rfl (fun w hs => zA2 (v := .pointer none) rfl) hK ?_; refine zA5 2 rfl rfl (fun w hs => zA2 (v := zAq ad _) rfl) hK ?_; refine zAp (by kernel_rfl) ?_; clear hK; refine zAg ?_; refine res2 (v := .pointer none) (v2 := zAq ad _) rfl rfl rfl ?_; exact ⟨_, rfl, none, by rw [epF, if_neg (by omega), if_pos (zFu h10)], hs⟩
   ·
    intro h10; refine zAf ?_; refine zA6 ?_; refine zA6 (zA1 ?_); refine zA rfl (zA2 (v := .int .i64 _) rfl) ?_; refine zA4 ?_; refine zAw ?_; refine zBw (X := Nat) [2, 3, 4, 12, 13, 14, 15, 16, 17, 18, 19, 20, 21, 22, 23, 24, 25, 26, 27, 28, 29, 30, 31, 32, 33, 34, 35, 36, 37, 38, 39, 40, 41, 42, 43, 44] (fun k => [(4, .int .i64 (k : Nat))]) (fun k w => 1 ≤ k ∧ (∀ i, 1 ≤ i → i < k → i < l.length → risAt l i = true) ∧ Mem g w L) (fun k => l.length - k) (1) ?_ ?_ ?_
    · exact ⟨rfl, trivial⟩
    · exact ⟨Nat.le_refl _, fun i h1 h2 => by omega, hs⟩
    clear hs; rintro x ξ w hI; obtain ⟨hk, hq, hs⟩ := hI; refine zA6 ?_; refine zA6 (zA1 ?_); refine zA rfl (zA0 (v := .int .i64 _) rfl) ?_; refine zA rfl (zA0 (v := .slice _ _ _) rfl) ?_; refine zA rfl (zB2 zCx rfl) ?_; refine zA rfl (zB7 rfl rfl) ?_; refine zA4 ?_; refine zB8 rfl ?_ ?_
    ·
     intro h15; have g15 := of_decide_eq_true h15; obtain ⟨y, hy⟩ : ∃ y, l[x]? = some y := ⟨_, List.getElem?_eq_getElem (by omega)⟩; obtain ⟨y0, hy0⟩ : ∃ y, l[x - 1]? = some y := ⟨_, List.getElem?_eq_getElem (by omega)⟩; obtain ⟨b1, o1, rfl⟩ := hr.at hs (by rw [zEb]; omega); have hra := risAt_eq hy0 hy; refine zAf ?_; refine zA6 ?_; refine zAw ?_; refine zA6 ?_; refine zAy zBv hs ?_; intro w tr hK; replace hs := tr _ hs; clear tr; refine zA5 0 rfl rfl (fun w hs => zA0 (v := .slice _ _ _) rfl) hK ?_; refine zA5 1 rfl rfl (fun w hs => zA0 (v := .int .i64 _) rfl) hK ?_; refine zA5 2 rfl rfl (fun w hs => zB0 zCx zEo rfl rfl rfl (by omega) rfl) hK ?_
     refine zA5 3 rfl rfl (fun w hs => zA3 zDk rfl sz3 rfl rfl rfl) hK ?_; refine zA5 4 rfl rfl (fun w hs => zA8 uz3 rfl rfl (hr.cell hs (zE4 hy) (j := 0) rfl)) hK ?_; refine zA5 5 rfl rfl (fun w hs => zA0 (v := .slice _ _ _) rfl) hK ?_; refine zA5 6 rfl rfl (fun w hs => zA0 (v := .int .i64 _) rfl) hK ?_; refine zA5 7 rfl rfl (fun w hs => zCg rfl rfl (c := ((x - 1 : Nat) : Int)) (by omega) (inI (by omega) (by omega))) hK ?_; refine zA5 8 rfl rfl (fun w hs => zB0 zCx zEo rfl rfl rfl (by omega) rfl) hK ?_; refine zA5 9 rfl rfl (fun w hs => zA3 zDk rfl sz3 rfl rfl rfl) hK ?_; refine zA5 10 rfl rfl (fun w hs => zA8 uz3 rfl rfl (hr.cell hs (zE4 hy0) (j := 0) rfl)) hK ?_
     refine zA5 11 rfl rfl (fun w hs => zDy rfl rfl) hK ?_; refine zA5 12 rfl rfl (fun w hs => zA0 (v := .bool _) rfl) hK ?_; refine aw_split (t := _) (d := 30) rfl ?_ ?_
     ·
      intro h29; have g29 := of_decide_eq_true h29; refine zAd 13 rfl rfl rfl rfl h29 hK ?_; refine zAd 14 rfl rfl rfl rfl h29 hK ?_; refine zAd 15 rfl rfl rfl rfl h29 hK ?_; refine zAd 16 rfl rfl rfl rfl h29 hK ?_; refine zAd 17 rfl rfl rfl rfl h29 hK ?_; refine zAd 18 rfl rfl rfl rfl h29 hK ?_; refine zAd 19 rfl rfl rfl rfl h29 hK ?_; refine zAd 20 rfl rfl rfl rfl h29 hK ?_; refine zAd 21 rfl rfl rfl rfl h29 hK ?_; refine zAd 22 rfl rfl rfl rfl h29 hK ?_; refine zAd 23 rfl rfl rfl rfl h29 hK ?_; refine zAd 24 rfl rfl rfl rfl h29 hK ?_; refine zA5 25 rfl rfl (fun w hs => zAj (v := .bool _) rfl h29 rfl) hK ?_; refine zAp (by kernel_rfl) ?_; clear hK; refine zBb rfl rfl ?_; refine zA6 ?_
      refine zAy zBv hs ?_; intro w tr hK; replace hs := tr _ hs; clear tr; refine zA5 0 rfl rfl (fun w hs => zA8 zCq rfl rfl (hE.cellW hs 103 (by decide) rfl)) hK ?_; refine zA5 1 rfl rfl (fun w hs => zA2 (v := .pointer none) rfl) hK ?_; refine zA5 2 rfl rfl (fun w hs => zA2 (v := zAq ad _) rfl) hK ?_; refine zAp (by kernel_rfl) ?_; clear hK; refine zAg ?_; refine res2 (v := .pointer none) (v2 := zAq ad _) rfl rfl rfl ?_; exact ⟨_, rfl, none, by rw [epF, if_neg (by omega), if_neg (by rw [zEs h10]; decide), if_pos (ris_no hk (by omega) (by rw [hra]; simp; omega))], hs⟩
     ·
      intro h29; have g29 := of_decide_eq_false h29; refine zAe 13 rfl rfl rfl rfl h29 (fun w hs => zA0 (v := .slice _ _ _) rfl) hK ?_; refine zAe 14 rfl rfl rfl rfl h29 (fun w hs => zA0 (v := .int .i64 _) rfl) hK ?_; refine zAe 15 rfl rfl rfl rfl h29 (fun w hs => zB0 zCx zEo rfl rfl rfl (by omega) rfl) hK ?_; refine zAe 16 rfl rfl rfl rfl h29 (fun w hs => zA3 zDk rfl sz2 rfl rfl rfl) hK ?_; refine zAe 17 rfl rfl rfl rfl h29 (fun w hs => zA8 uz2 rfl rfl (hr.cell hs (zE4 hy) (j := 1) rfl)) hK ?_; refine zAe 18 rfl rfl rfl rfl h29 (fun w hs => zA0 (v := .slice _ _ _) rfl) hK ?_; refine zAe 19 rfl rfl rfl rfl h29 (fun w hs => zA0 (v := .int .i64 _) rfl) hK ?_
      refine zAe 20 rfl rfl rfl rfl h29 (fun w hs => zCg rfl rfl (c := ((x - 1 : Nat) : Int)) (by omega) (inI (by omega) (by omega))) hK ?_; refine zAe 21 rfl rfl rfl rfl h29 (fun w hs => zB0 zCx zEo rfl rfl rfl (by omega) rfl) hK ?_; refine zAe 22 rfl rfl rfl rfl h29 (fun w hs => zA3 zDk rfl sz2 rfl rfl rfl) hK ?_; refine zAe 23 rfl rfl rfl rfl h29 (fun w hs => zA8 uz2 rfl rfl (hr.cell hs (zE4 hy0) (j := 1) rfl)) hK ?_; refine zAe 24 rfl rfl rfl rfl h29 (fun w hs => zDy rfl rfl) hK ?_; refine zA5 25 rfl rfl (fun w hs => zAk (v := .bool _) rfl h29 rfl) hK ?_; refine zAp (by kernel_rfl) ?_; clear hK; refine zB8 rfl ?_ ?_
      ·
       intro h42; have g42 := of_decide_eq_true h42; refine zA6 ?_; refine zAy zBv hs ?_; intro w tr hK; replace hs := tr _ hs; clear tr; refine zA5 0 rfl rfl (fun w hs => zA8 zCq rfl rfl (hE.cellW hs 103 (by decide) rfl)) hK ?_; refine zA5 1 rfl rfl (fun w hs => zA2 (v := .pointer none) rfl) hK ?_; refine zA5 2 rfl rfl (fun w hs => zA2 (v := zAq ad _) rfl) hK ?_; refine zAp (by kernel_rfl) ?_; clear hK; refine zAg ?_; refine res2 (v := .pointer none) (v2 := zAq ad _) rfl rfl rfl ?_; exact ⟨_, rfl, none, by rw [epF, if_neg (by omega), if_neg (by rw [zEs h10]; decide), if_pos (ris_no hk (by omega) (by rw [hra]; simp; omega))], hs⟩
      ·
       intro h42; have g42 := of_decide_eq_false h42; refine zAf ?_; refine zA1 ?_; refine zA rfl (zA0 (v := .int .i64 _) rfl) ?_; refine zA rfl (zAs rfl rfl rfl (inI (by omega) (by omega))) ?_; refine zA rfl (zA2 (v := .int .i64 _) rfl) ?_; refine zA4 ?_; exact ⟨x + 1, by omega, ⟨by omega, (fun i h1 h2 h3 => by rcases Nat.lt_or_ge i x with h | h; exact hq i h1 h h3; obtain rfl : i = x := (by omega); rw [hra]; simp; omega), hs⟩, ⟨rfl, trivial⟩, by repeat (first | exact Out.mix _ _ _ | refine Out.updo rfl ?_ | refine Out.upd rfl ?_ | refine Out.mixIn rfl ?_)⟩
    ·
     intro h15; have g15 := of_decide_eq_false h15; refine zBg rfl ?_; refine zA6 (zA1 ?_); refine zA rfl (zA0 (v := .slice _ _ _) rfl) ?_; refine zAb rfl en88 (clonePr_sl hs hr rfl (by omega)) ?_; clear hs; rintro _ w ⟨s, rfl, hs⟩; refine zA rfl (zB3 ([.slice s.1 l.length s.2]) uz191 ze191 pl191 rfl (by simp [Value.cells]) rfl rfl) ?_; refine zCj (v := .agg _) hs rfl rfl ?_; clear hs; intro b48 w hs
     try simp only [List.set_cons_succ, List.set_cons_zero] at hs
     refine zA rfl (zA2 (v := .pointer (some _)) rfl) ?_; refine zA rfl (zA2 (v := .nilIface) rfl) ?_; refine zA4 ?_; refine zAg ?_; refine res2 (v := .pointer (some _)) (v2 := .nilIface) rfl rfl rfl ?_; exact ⟨_, rfl, some ⟨b48, 0, none⟩, by rw [epF, if_neg (by omega), if_neg (by rw [zEs h10]; decide), if_neg (by rw [ris_iff.2 (fun i h1 h2 => hq i h1 (by omega) h2)]; decide), zB6], hs.tail.tail⟩
theorem dup_no {l : List Ob} {x : Nat} {y : Ob} (hy : l[x]? = some y) (h : ((l.take x).any fun u => decide (u.1 = y.1)) = true) : ¬ (l.map Prod.fst).Nodup := fun hn => by
  obtain ⟨u, hu, he⟩ := List.any_eq_true.1 h; have he : u.1 = y.1 := of_decide_eq_true he; obtain ⟨j, hj⟩ := List.mem_iff_getElem?.1 hu; obtain ⟨hjl, _⟩ := List.getElem?_eq_some_iff.1 hj; rw [List.length_take] at hjl; rw [List.getElem?_take_of_lt (by omega)] at hj
  have h1 : (l.map Prod.fst)[j]? = some y.1 := by rw [List.getElem?_map, hj, Option.map_some, he]
  have h2 : (l.map Prod.fst)[x]? = some y.1 := by rw [List.getElem?_map, hy, Option.map_some]
  obtain ⟨g1, e1⟩ := List.getElem?_eq_some_iff.1 h1; obtain ⟨g2, e2⟩ := List.getElem?_eq_some_iff.1 h2; have := (List.getElem_inj hn).1 (e1.trans e2.symm)
  omega
theorem nodup_next {l : List Ob} {x : Nat} {y : Ob} (hy : l[x]? = some y) (hq : ((l.take x).map Prod.fst).Nodup) (h : ((l.take x).any fun u => decide (u.1 = y.1)) = false) : ((l.take (x + 1)).map Prod.fst).Nodup := by
  rw [List.take_add_one, hy, List.map_append, List.nodup_append]; refine ⟨hq, by simp, fun a ha b hb e => ?_⟩; simp only [Option.toList, List.map_cons, List.map_nil, List.mem_cons, List.not_mem_nil, or_false] at hb; obtain ⟨u, hu, rfl⟩ := List.mem_map.1 ha; have := List.any_eq_false.1 h u hu; simp only [decide_eq_true_eq] at this; exact this (e.trans hb)
theorem objects_sl (hE : ErrV ad g) (hs : Mem g w L) {a : Option Addr} {n c : Nat} {l : List Ob} (hr : RdK g L 3 (.slice a n c) (l.map obL)) (hn : n = l.length) (hlen : l.length ≤ 1000000) : Calls Tryz.prog 85 #[.slice a n c] w (Ret (RetF ad (obF l) g L)) := by
  subst hn; refine zAo Tryz.func85 rfl rfl ?_
  skip
  refine zA6 (zA1 ?_); refine zA rfl (zA2 (v := .nilIface) rfl) ?_; refine zA4 ?_; refine zA6 ?_; refine zA6 (zA1 ?_); refine zA rfl (zA0 (v := .slice _ _ _) rfl) ?_; refine zA rfl (zB2 zBp rfl) ?_; refine zA rfl (zB7 rfl rfl) ?_; refine zA rfl (zA0 (v := .bool _) rfl) ?_; refine zBa (t := _) (d := 10) rfl ?_ ?_
  ·
   intro h9; have g9 := of_decide_eq_true h9; refine zAc rfl rfl rfl h9 ?_; refine zAc rfl rfl rfl h9 ?_; refine zAc rfl rfl rfl h9 ?_; refine zA rfl (zAj (v := .bool _) rfl h9 rfl) ?_; refine zA4 ?_; refine zBb rfl rfl ?_; refine zA6 (zA1 ?_); refine zA rfl (zA8 zCq rfl rfl (hE.cellW hs 104 (by decide) rfl)) ?_; refine zA rfl (zA2 (v := zAq ad _) rfl) ?_; refine zA4 ?_; refine zAg ?_; refine zBl (v := zAq ad _) rfl rfl ?_; rw [obF, if_pos (by omega)]; exact ⟨_, rfl, RetF.bare hs⟩
  ·
   intro h9; have g9 := of_decide_eq_false h9; refine zAi rfl rfl h9 ?_; refine zA rfl (zA0 (v := .slice _ _ _) rfl) ?_; refine zAi rfl rfl h9 ?_; refine zA rfl (zB2 zBp rfl) ?_; refine zAi rfl rfl h9 ?_; refine zA rfl (zBi rfl rfl) ?_; refine zA rfl (zAk (v := .bool _) rfl h9 rfl) ?_; refine zA4 ?_; refine zB8 rfl ?_ ?_
   ·
    intro h13; have g13 := of_decide_eq_true h13; refine zA6 (zA1 ?_); refine zA rfl (zA8 zCq rfl rfl (hE.cellW hs 104 (by decide) rfl)) ?_; refine zA rfl (zA2 (v := zAq ad _) rfl) ?_; refine zA4 ?_; refine zAg ?_; refine zBl (v := zAq ad _) rfl rfl ?_; rw [obF, if_pos (by omega)]; exact ⟨_, rfl, RetF.bare hs⟩
   ·
    intro h13; have g13 := of_decide_eq_false h13; refine zAf ?_; refine zA6 ?_; refine zA6 (zA1 ?_); refine zA rfl (zA0 (v := .slice _ _ _) rfl) ?_; refine zA rfl (zB2 zBp rfl) ?_; refine zA rfl (zA0 (v := .int .i64 _) rfl) ?_; refine zA4 ?_; refine zAw ?_; refine zBw (X := Nat) [2, 3, 4, 18, 19, 20, 21, 22, 23, 24, 25, 26, 27, 28, 29, 30, 31, 32, 33, 34, 35, 36, 37, 38, 39, 40, 41, 42, 43, 44, 45] (fun k => [(18, .int .i64 (k : Nat))]) (fun k w => k ≤ l.length ∧ (∀ j, j < k → ∀ u, l[j]? = some u → zD7 u = 0) ∧ Mem g w L) (fun k => l.length - k) (0) ?_ ?_ ?_
    · exact ⟨rfl, trivial⟩
    · exact ⟨Nat.zero_le _, fun j h => by omega, hs⟩
    clear hs; rintro x ξ w hI; obtain ⟨hk, hq, hs⟩ := hI; refine zA6 (zA1 ?_); refine zA rfl (zB7 rfl rfl) ?_; refine zA4 ?_; refine zA6 ?_; refine zB8 rfl ?_ ?_
    ·
     intro h19; have g19 := of_decide_eq_true h19; obtain ⟨y, hy⟩ : ∃ y, l[x]? = some y := ⟨_, List.getElem?_eq_getElem (by omega)⟩; obtain ⟨b1, o1, rfl⟩ := hr.at hs (by rw [zF4]; omega); refine zAf ?_; refine zA6 ?_; refine zAw ?_; refine zA6 (zA1 ?_); refine zA rfl (zA0 (v := .int .i64 _) rfl) ?_; refine zA rfl (zB0 zBp zFn rfl rfl rfl (by omega) rfl) ?_; refine zA rfl (zD4 (cs := obL y) zCl zFn rfl (fun j v hj => hr.cell hs (obL_at hy) hj)) ?_; refine zBd hs rfl zDi ?_; clear hs; intro b4 w hs
     try simp only [List.set_cons_succ, List.set_cons_zero] at hs
     refine zA rfl (zA2 (v := .int .i64 _) rfl) ?_; refine zAn hs 0 rfl rfl rfl zFn rfl rfl ?_; clear hs; intro w hs
     try simp only [List.set_cons_succ, List.set_cons_zero] at hs
     refine zA4 ?_; refine zA6 ?_; refine zA6 (zA1 ?_); refine zA rfl (zA3 (o' := 0) zCl rfl sz9 rfl rfl rfl) ?_; refine zA rfl (zA8 uz9 rfl rfl (hs.cellAt 0 rfl rfl)) ?_; refine zAb rfl en74 (valid_sl hs y.1) ?_; clear hs; rintro _ w ⟨rfl, hs⟩; refine zA rfl (zC4 rfl) ?_; refine zA4 ?_; refine zB8 rfl ?_ ?_
     ·
      intro h25; replace h25 := zFu h25; refine zA6 (zA1 ?_); refine zA rfl (zA0 (v := .int .i64 _) rfl) ?_; refine zA rfl (zA8 zCq rfl rfl (hE.cellW hs 106 (by decide) rfl)) ?_; refine zA rfl (zB3 [.int .i64 (x : Nat), zAq ad 106] uz109 ze109 pl109 rfl (at_one _ _) rfl rfl) ?_; refine zCj (v := .agg _) hs rfl rfl ?_; clear hs; intro b30 w hs
      try simp only [List.set_cons_succ, List.set_cons_zero] at hs
      refine zA rfl (run_mkI uz104 rfl) ?_; refine zA rfl (zA2 (v := .iface _ (.pointer (some _))) rfl) ?_; refine zA4 ?_; refine zAg ?_; refine zBl (v := .iface _ (.pointer (some _))) rfl rfl ?_
      have e : zD7 y = 106 := by simp [zD7, h25]
      rw [obF_bad (by omega) hy (by rw [e]; decide) hq, e]; exact ⟨_, rfl, b30, rfl, hs.arr [0] 2 (by decide)⟩
     ·
      intro h25; replace h25 := zEs h25; refine zAf ?_; refine zA6 (zA1 ?_); refine zA rfl (zA3 (o' := 1) zCl rfl sz3 rfl rfl rfl) ?_; refine zA rfl (zA8 uz3 rfl rfl (hs.cellAt 0 rfl rfl)) ?_; refine zA rfl (zB7 rfl rfl) ?_; refine zA rfl (zA0 (v := .bool _) rfl) ?_; refine zBa (t := _) (d := 35) rfl ?_ ?_
      ·
       intro h34; have g34 := of_decide_eq_true h34; refine zAc rfl rfl rfl h34 ?_; refine zAc rfl rfl rfl h34 ?_; refine zAc rfl rfl rfl h34 ?_; refine zA rfl (zAj (v := .bool _) rfl h34 rfl) ?_; refine zA4 ?_; refine zBb rfl rfl ?_; refine zA6 (zA1 ?_); refine zA rfl (zA0 (v := .int .i64 _) rfl) ?_; refine zA rfl (zA8 zCq rfl rfl (hE.cellW hs 105 (by decide) rfl)) ?_; refine zA rfl (zB3 [.int .i64 (x : Nat), zAq ad 105] uz109 ze109 pl109 rfl (at_one _ _) rfl rfl) ?_; refine zCj (v := .agg _) hs rfl rfl ?_; clear hs; intro b43 w hs
       try simp only [List.set_cons_succ, List.set_cons_zero] at hs
       refine zA rfl (run_mkI uz104 rfl) ?_; refine zA rfl (zA2 (v := .iface _ (.pointer (some _))) rfl) ?_; refine zA4 ?_; refine zAg ?_; refine zBl (v := .iface _ (.pointer (some _))) rfl rfl ?_
       have e : zD7 y = 105 := by simp [zD7, h25]; omega
       rw [obF_bad (by omega) hy (by rw [e]; decide) hq, e]; exact ⟨_, rfl, b43, rfl, hs.arr [0] 2 (by decide)⟩
      ·
       intro h34; have g34 := of_decide_eq_false h34; refine zAi rfl rfl h34 ?_; refine zA rfl (zA3 (o' := 1) zCl rfl sz3 rfl rfl rfl) ?_; refine zAi rfl rfl h34 ?_; refine zA rfl (zA8 uz3 rfl rfl (hs.cellAt 0 rfl rfl)) ?_; refine zAi rfl rfl h34 ?_; refine zA rfl (zBi rfl rfl) ?_; refine zA rfl (zAk (v := .bool _) rfl h34 rfl) ?_; refine zA4 ?_; refine zB8 rfl ?_ ?_
       ·
        intro h38; have g38 := of_decide_eq_true h38; refine zA6 (zA1 ?_); refine zA rfl (zA0 (v := .int .i64 _) rfl) ?_; refine zA rfl (zA8 zCq rfl rfl (hE.cellW hs 105 (by decide) rfl)) ?_; refine zA rfl (zB3 [.int .i64 (x : Nat), zAq ad 105] uz109 ze109 pl109 rfl (at_one _ _) rfl rfl) ?_; refine zCj (v := .agg _) hs rfl rfl ?_; clear hs; intro b43 w hs
        try simp only [List.set_cons_succ, List.set_cons_zero] at hs
        refine zA rfl (run_mkI uz104 rfl) ?_; refine zA rfl (zA2 (v := .iface _ (.pointer (some _))) rfl) ?_; refine zA4 ?_; refine zAg ?_; refine zBl (v := .iface _ (.pointer (some _))) rfl rfl ?_
        have e : zD7 y = 105 := by simp [zD7, h25]; omega
        rw [obF_bad (by omega) hy (by rw [e]; decide) hq, e]; exact ⟨_, rfl, b43, rfl, hs.arr [0] 2 (by decide)⟩
       ·
        intro h38; have g38 := of_decide_eq_false h38; refine zAf ?_; refine zA1 ?_; refine zA rfl (zAs rfl rfl rfl (inI (by omega) (by omega))) ?_; refine zA rfl (zA0 (v := .int .i64 _) rfl) ?_; refine zA4 ?_; exact ⟨x + 1, by omega, ⟨by omega, (fun j hj u hu => by rcases Nat.lt_or_ge j x with h | h; exact hq j h u hu; obtain rfl : j = x := (by omega); rw [hy] at hu; cases hu; simp only [zD7, h25, Bool.true_eq_false, if_false]; rw [if_neg (by omega)]), hs.tail⟩, ⟨rfl, trivial⟩, by repeat (first | exact Out.mix _ _ _ | refine Out.updo rfl ?_ | refine Out.upd rfl ?_ | refine Out.mixIn rfl ?_)⟩
    ·
     intro h19; have g19 := of_decide_eq_false h19
     have hall : ∀ (j : Nat) (u : Ob), l[j]? = some u → zD7 u = 0 := fun j u hu => hq j (by have := (List.getElem?_eq_some_iff.1 hu).1; omega) u hu
     refine zBg rfl ?_; refine zA6 ?_; refine zA6 (zA1 ?_); refine zA rfl (zA0 (v := .slice _ _ _) rfl) ?_; refine zA rfl (zB2 zBp rfl) ?_; refine zA rfl (zA0 (v := .int .i64 _) rfl) ?_; refine zA4 ?_; refine zAw ?_; refine zBw (X := Nat) [2, 5, 6, 48, 49, 50, 51, 52, 53, 54, 55, 56, 57, 58, 59] (fun k => [(48, .int .i64 (k : Nat))]) (fun k w => k ≤ l.length ∧ ((l.take k).map Prod.fst).Nodup ∧ Mem g w L) (fun k => l.length - k) (0) ?_ ?_ ?_
     · exact ⟨rfl, trivial⟩
     · exact ⟨Nat.zero_le _, by simp, hs⟩
     clear hs; rintro x ξ w hI; obtain ⟨hk1, hq1, hs⟩ := hI; refine zA6 (zA1 ?_); refine zA rfl (zB7 rfl rfl) ?_; refine zA4 ?_; refine zA6 ?_; refine zB8 rfl ?_ ?_
     ·
      intro h49; have g49 := of_decide_eq_true h49; have hs0 := hs; obtain ⟨y, hy⟩ : ∃ y, l[x]? = some y := ⟨_, List.getElem?_eq_getElem (by omega)⟩; obtain ⟨b1, o1, rfl⟩ := hr.at hs (by rw [zF4]; omega); refine zAf ?_; refine zA6 ?_; refine zAw ?_; refine zA6 (zA1 ?_); refine zA rfl (zA0 (v := .int .i64 _) rfl) ?_; refine zA rfl (zB0 zBp zFn rfl rfl rfl (by omega) rfl) ?_; refine zA rfl (zD4 (cs := obL y) zCl zFn rfl (fun j v hj => hr.cell hs (obL_at hy) hj)) ?_; refine zBd hs rfl zDi ?_; clear hs; intro b6 w hs
      try simp only [List.set_cons_succ, List.set_cons_zero] at hs
      refine zA rfl (zA2 (v := .int .i64 _) rfl) ?_; refine zAn hs 0 rfl rfl rfl zFn rfl rfl ?_; clear hs; intro w hs
      try simp only [List.set_cons_succ, List.set_cons_zero] at hs
      refine zA4 (zA6 (zA1 ?_)); refine zA rfl (zA0 (v := .slice _ _ _) rfl) ?_; refine zA rfl (zA0 (v := .int .i64 _) rfl) ?_; refine zA rfl (run_sliceToK zBp zFn rfl rfl (hi := x) rfl (by have := hr.cap hs0; omega) (.inr ⟨b1, o1, rfl⟩)) ?_; refine zA rfl (zE1) ?_; refine zAb rfl en126 (conO_sl (l := l.take x) (o := y) hs (by rw [List.map_take]; exact hr.cons.take (by omega)) (by rw [List.length_take]; omega) (by rw [List.length_take]; omega)) ?_; clear hs; rintro _ w ⟨rfl, hs⟩; refine zA4 ?_; refine zB8 rfl ?_ ?_
      ·
       intro h57; refine zA6 (zA1 ?_); refine zA rfl (zA8 zCq rfl rfl (hE.cellW hs 103 (by decide) rfl)) ?_; refine zA rfl (zA2 (v := zAq ad _) rfl) ?_; refine zA4 ?_; refine zAg ?_; refine zBl (v := zAq ad _) rfl rfl ?_; rw [obF_fine (by omega) hall, if_neg (dup_no hy h57)]; exact ⟨_, rfl, RetF.bare hs.tail⟩
      ·
       intro h57; refine zAf ?_; refine zA1 ?_; refine zA rfl (zAs rfl rfl rfl (inI (by omega) (by omega))) ?_; refine zA rfl (zA0 (v := .int .i64 _) rfl) ?_; refine zA4 ?_; exact ⟨x + 1, by omega, ⟨by omega, nodup_next hy hq1 h57, hs.tail⟩, ⟨rfl, trivial⟩, by repeat (first | exact Out.mix _ _ _ | refine Out.updo rfl ?_ | refine Out.upd rfl ?_ | refine Out.mixIn rfl ?_)⟩
     ·
      intro h49; have g49 := of_decide_eq_false h49; refine zBg rfl ?_; refine zA6 (zA1 ?_); refine zA rfl (zA2 (v := .nilIface) rfl) ?_; refine zA4 ?_; refine zAg ?_; refine zBl (v := .nilIface) rfl rfl ?_
      have e : x = l.length := by omega
      rw [e, List.take_length] at hq1; rw [obF_fine (by omega) hall, if_pos hq1]; exact ⟨_, rfl, by rw [← zB6 ad]; exact RetF.bare hs⟩
end Go.Proofs.YtdkgdjnbpjjfmaaGreatDoor
namespace Go.Proofs.YtdkgdjnbpjjfmaaGreatDoor
set_option linter.all false
open Go.RowKit
attribute [local irreducible] zAq
variable {g w : World} {L M : List HP} {ad : Nat → Addr}

def textsL (l : List ByteArray) : List Value := l.map Value.string
end Go.Proofs.YtdkgdjnbpjjfmaaGreatDoor
