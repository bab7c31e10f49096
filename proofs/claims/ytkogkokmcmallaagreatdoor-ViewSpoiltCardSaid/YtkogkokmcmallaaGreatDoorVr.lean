/- vint.Get, GetInt; the reader of numbers. -/
import Derived.Test.YtkogkokmcmallaaGreatDoorEi
import Derived.Test.YtkogkokmcmallaaGreatDoorZg
import Derived.Test.YtkogkokmcmallaaGreatDoorZb
namespace Go.Proofs.YtkogkokmcmallaaGreatDoor
set_option linter.all false
open Go.RowKit
attribute [local irreducible] errV
variable {g w : World} {L M : List HP} {ad : Nat → Addr}

/-! ### numbers out of bytes, in plain words -/
/-- The error's number, the number, how many bytes. -/
def vgetF : Nat → Nat → Nat → List UInt8 → Nat × Nat × Nat
  | 0, _, _, _ => (103, 0, 0)
  | f + 1, i, n, b => match b[i]? with
    | none => (101, 0, 0)
    | some c => if i = 9 ∧ 1 < c.toNat then (103, 0, 0) else if 128 ≤ c.toNat then vgetF f (i + 1) (n + c.toNat % 128 * 2 ^ (7 * i)) b else if 0 < i ∧ c.toNat = 0 then (103, 0, 0) else (0, n + c.toNat % 128 * 2 ^ (7 * i), i + 1)
def vget (b : List UInt8) : Nat × Nat × Nat := vgetF 10 0 0 b
theorem vgetF_some {b : List UInt8} {f i n : Nat} {c : UInt8} (h : b[i]? = some c) : vgetF (f + 1) i n b = if i = 9 ∧ 1 < c.toNat then (103, 0, 0) else if 128 ≤ c.toNat then vgetF f (i + 1) (n + c.toNat % 128 * 2 ^ (7 * i)) b else if 0 < i ∧ c.toNat = 0 then (103, 0, 0) else (0, n + c.toNat % 128 * 2 ^ (7 * i), i + 1) := by
  conv => lhs; unfold vgetF
  rw [h]
theorem vgetF_none {b : List UInt8} {f i n : Nat} (h : b[i]? = none) : vgetF (f + 1) i n b = (101, 0, 0) := by
  conv => lhs; unfold vgetF
  rw [h]
/-- A number with a sign, out of one without. -/
def zag (n : Nat) : Int := if n % 2 = 0 then ((n / 2 : Nat) : Int) else -((n / 2 : Nat) : Int) - 1
theorem or_u64 (a b : Nat) (ha : a < 18446744073709551616) (hb : b < 18446744073709551616) : bits .or .u64 (a : Int) (b : Int) = ((a ||| b : Nat) : Int) := by
  have hx : a ||| b < 2 ^ 64 := Nat.or_lt_two_pow (by omega) (by omega)
  show IntKind.u64.wrap ((BitVec.ofInt 64 (a : Int) ||| BitVec.ofInt 64 (b : Int)).toNat : Int) = _
  rw [BitVec.toNat_or, u64_nat a ha, u64_nat b hb, wrap_u64]
  omega
theorem and_u64 (a b : Nat) (ha : a < 18446744073709551616) (hb : b < 18446744073709551616) : bits .and .u64 (a : Int) (b : Int) = ((a &&& b : Nat) : Int) := by
  have hx : a &&& b ≤ a := Nat.and_le_left
  show IntKind.u64.wrap ((BitVec.ofInt 64 (a : Int) &&& BitVec.ofInt 64 (b : Int)).toNat : Int) = _
  rw [BitVec.toNat_and, u64_nat a ha, u64_nat b hb, wrap_u64]
  omega
theorem or_add {n c i : Nat} (hn : n < 2 ^ i) : n ||| (c * 2 ^ i) = n + c * 2 ^ i := by
  rw [← Nat.shiftLeft_eq, Nat.or_comm, ← Nat.shiftLeft_add_eq_or_of_lt hn, Nat.add_comm]
theorem low7b (c : UInt8) : bits .and .u8 ((c.toNat : Nat) : Int) 127 = ((c.toNat % 128 : Nat) : Int) := by
  have h : ∀ m : Nat, m < 256 → bits .and .u8 (m : Int) 127 = ((m % 128 : Nat) : Int) := by decide +kernel
  exact h c.toNat (UInt8.toNat_lt c)
/-- One group of seven bits is laid in. -/
theorem seven_in {n i : Nat} {c : UInt8} (hn : n < 2 ^ (7 * i)) (hi : i ≤ 9) (hc : i = 9 → c.toNat ≤ 1) : n + c.toNat % 128 * 2 ^ (7 * i) < 18446744073709551616 ∧ c.toNat % 128 * 2 ^ (7 * i) < 18446744073709551616 ∧ n + c.toNat % 128 * 2 ^ (7 * i) < 2 ^ (7 * (i + 1)) := by
  have h7 : 2 ^ (7 * (i + 1)) = 128 * 2 ^ (7 * i) := by rw [Nat.mul_add, Nat.pow_add]; omega
  have hm : c.toNat % 128 ≤ 127 := by omega
  have hle : c.toNat % 128 * 2 ^ (7 * i) ≤ 127 * 2 ^ (7 * i) := Nat.mul_le_mul_right _ hm
  rcases Nat.lt_or_ge i 9 with h | h
  · have : 2 ^ (7 * i) ≤ 2 ^ 56 := Nat.pow_le_pow_right (by decide) (by omega)
    refine ⟨by omega, by omega, by omega⟩
  · have e : i = 9 := by omega
    subst e
    have h1 := hc rfl
    have h2 : c.toNat % 128 ≤ 1 := by omega
    have h3 : c.toNat % 128 * 2 ^ 63 ≤ 1 * 2 ^ 63 := Nat.mul_le_mul_right _ h2
    have e1 : 2 ^ (7 * 9) = 2 ^ 63 := rfl
    rw [e1] at *
    refine ⟨by omega, by omega, by omega⟩
/-- The codes of numbers. -/
def vintCodes : List Nat := [101, 103, 104, 105]
abbrev ErrW (ad : Nat → Addr) (g : World) : Prop := Errs vintCodes ad g.heap.size g
theorem Errs.sub {A C : List Nat} {ad : Nat → Addr} {B : Nat} {w : World} (h : Errs A ad B w) (hs : ∀ c ∈ C, c ∈ A) : Errs C ad B w :=
  ⟨fun c hc => h.pos c (hs c hc), fun c hc => h.cell c (hs c hc), fun c hc => h.block c (hs c hc), fun c hc d hd => h.inj c (hs c hc) d (hs d hd), fun c hc => h.lt c (hs c hc)⟩
theorem vget_sl (hE : ErrW ad g) (hs : Mem g w L) {a : Option Addr} {m c : Nat} {b : List UInt8} (hr : Rd g L (.slice a m c) (bytesL b)) (hm : m = b.length) (hlen : b.length ≤ 1073741824) {k n q : Nat} (hk : vget b = (k, n, q)) :
    Calls Tryz.prog 200 #[.slice a m c] w (Ret fun v w' => v = .tuple #[.int .u64 n, .int .i64 q, errV ad k] ∧ Mem g w' L) := by
  subst hm
  refine calls_cw Tryz.func200 rfl rfl ?_
  skip
  refine cw_seq ?_
  refine cw_region ?_
  refine lw_val rfl (run_assign (v := .int .u64 _) rfl) ?_
  refine lw_val rfl (run_assign (v := .int .i64 _) rfl) ?_
  refine lw_val rfl (run_assign (v := .nilIface) rfl) ?_
  refine lw_nil ?_
  refine cw_seq ?_
  refine cw_region ?_
  refine lw_val rfl (run_assign (v := .int .u64 _) rfl) ?_
  refine lw_nil ?_
  refine cw_seq ?_
  refine cw_seq ?_
  refine cw_region ?_
  refine lw_val rfl (run_move (v := .int .i64 _) rfl) ?_
  refine lw_nil ?_
  refine cw_block ?_
  refine cw_loop (X := Nat × Nat) [2, 3, 4, 5, 6, 7, 8, 9, 10, 11, 12, 13, 14, 15, 16, 17, 18, 19, 20, 21, 22, 23, 24, 25, 26, 27, 28, 29, 30, 31, 32, 33, 34, 35, 36, 37, 38, 39, 40, 41, 42, 43, 44, 45] (fun x => [(8, .int .i64 (x.1 : Nat)), (5, .int .u64 (x.2 : Nat))]) (fun x w => x.1 ≤ 10 ∧ x.2 < 2 ^ (7 * x.1) ∧ vgetF (10 - x.1) x.1 x.2 b = (k, n, q) ∧ Mem g w L) (fun x => 10 - x.1) ((0, 0)) ?_ ?_ ?_
  · exact ⟨rfl, rfl, trivial⟩
  · exact ⟨Nat.zero_le _, by decide, hk, hs⟩
  clear hs
  rintro x ξ w hI
  obtain ⟨i, s⟩ := x
  obtain ⟨hi, hsm, hv, hs⟩ := hI
  simp only at hi hsm hv hs
  show cw _ _ _ _ _ _ (updL (mix _ ξ _) [(8, .int .i64 (i : Nat)), (5, .int .u64 (s : Nat))]) w
  refine cw_seq ?_
  refine cw_region ?_
  refine lw_val rfl (run_lss rfl rfl) ?_
  refine lw_nil ?_
  refine cw_seq ?_
  refine cw_if rfl ?_ ?_
  · intro h9
    have g9 := of_decide_eq_true h9
    rw [show 10 - i = (9 - i) + 1 by omega] at hv
    refine cw_skip ?_
    refine cw_seq ?_
    refine cw_block ?_
    refine cw_seq ?_
    refine cw_region ?_
    refine lw_val rfl (run_move (v := .int .i64 _) rfl) ?_
    refine lw_val rfl (run_assign (v := .int .i64 _) rfl) ?_
    refine lw_nil ?_
    refine cw_seq ?_
    refine cw_seq ?_
    refine cw_region ?_
    refine lw_val rfl (run_move (v := .int .i64 _) rfl) ?_
    refine lw_val rfl (run_move (v := .slice _ _ _) rfl) ?_
    refine lw_val rfl (run_lenS Tryz.underlying64 rfl) ?_
    refine lw_val rfl (run_geq rfl rfl) ?_
    refine lw_nil ?_
    refine cw_if rfl ?_ ?_
    · intro h14
      have g14 := of_decide_eq_true h14
      rw [vgetF_none (List.getElem?_eq_none (by omega))] at hv
      cases hv
      refine cw_seq ?_
      refine cw_drawS mixes hs ?_
      intro w tr hK
      replace hs := tr _ hs
      clear tr
      refine aw_take 0 rfl (by kernel_rfl) (by kernel_rfl) (by kernel_rfl) rfl (fun w hs => run_load Tryz.underlying30 rfl rfl (hE.cellW hs 101 (by decide) rfl)) hK ?_
      refine aw_take 1 rfl (by kernel_rfl) (by kernel_rfl) (by kernel_rfl) rfl (fun w hs => run_assign (v := .int .u64 _) rfl) hK ?_
      refine aw_take 2 rfl (by kernel_rfl) (by kernel_rfl) (by kernel_rfl) rfl (fun w hs => run_assign (v := .int .i64 _) rfl) hK ?_
      refine aw_take 3 rfl (by kernel_rfl) (by kernel_rfl) (by kernel_rfl) rfl (fun w hs => run_assign (v := errV ad _) rfl) hK ?_
      refine aw_done (by kernel_rfl) ?_
      clear hK
      refine cw_ret ?_
      refine res3 (v := .int .u64 _) (v2 := .int .i64 _) (v3 := errV ad _) rfl rfl rfl rfl ?_
      exact ⟨_, rfl, rfl, hs⟩
    · intro h14
      have g14 := of_decide_eq_false h14
      obtain ⟨ch, hch⟩ : ∃ ch, b[i]? = some ch := ⟨_, List.getElem?_eq_getElem (by omega)⟩
      rw [vgetF_some hch] at hv
      obtain ⟨b1, o1, rfl, _⟩ := hr.cells' hs (by rw [bytesL_len]; omega)
      have hcb := UInt8.toNat_lt ch
      refine cw_skip ?_
      refine cw_seq ?_
      refine cw_region ?_
      refine lw_val rfl (run_move (v := .slice _ _ _) rfl) ?_
      refine lw_val rfl (run_move (v := .int .i64 _) rfl) ?_
      refine lw_val rfl (run_indexAddr Tryz.underlying64 sz5 rfl rfl rfl (by omega) rfl) ?_
      refine lw_val rfl (run_load Tryz.underlying5 rfl rfl (hr.cellAt hs (bytesL_at hch))) ?_
      refine lw_val rfl (run_assign (v := .int .u8 _) rfl) ?_
      refine lw_nil ?_
      refine cw_seq ?_
      refine cw_seq ?_
      refine cw_region ?_
      refine lw_val rfl (run_move (v := .int .i64 _) rfl) ?_
      refine lw_val rfl (run_eqi rfl rfl) ?_
      refine lw_val rfl (run_move (v := .bool _) rfl) ?_
      refine lw_split (t := _) (d := 22) rfl ?_ ?_
      · intro h21
        have g21 := of_decide_eq_true h21
        refine lw_on rfl rfl h21 ?_
        refine lw_val rfl (run_move (v := .int .u8 _) rfl) ?_
        refine lw_on rfl rfl h21 ?_
        refine lw_val rfl (run_gtr rfl rfl) ?_
        refine lw_val rfl (run_pickT (v := .bool _) rfl h21 rfl) ?_
        refine lw_nil ?_
        refine cw_if rfl ?_ ?_
        · intro h24
          have g24 := of_decide_eq_true h24
          rw [if_pos ⟨by omega, by omega⟩] at hv
          cases hv
          refine cw_exit rfl ?_
          refine cw_seq ?_
          refine cw_drawS mixes hs ?_
          intro w tr hK
          replace hs := tr _ hs
          clear tr
          refine aw_take 0 rfl (by kernel_rfl) (by kernel_rfl) (by kernel_rfl) rfl (fun w hs => run_load Tryz.underlying30 rfl rfl (hE.cellW hs 103 (by decide) rfl)) hK ?_
          refine aw_take 1 rfl (by kernel_rfl) (by kernel_rfl) (by kernel_rfl) rfl (fun w hs => run_assign (v := .int .u64 _) rfl) hK ?_
          refine aw_take 2 rfl (by kernel_rfl) (by kernel_rfl) (by kernel_rfl) rfl (fun w hs => run_assign (v := .int .i64 _) rfl) hK ?_
          refine aw_take 3 rfl (by kernel_rfl) (by kernel_rfl) (by kernel_rfl) rfl (fun w hs => run_assign (v := errV ad _) rfl) hK ?_
          refine aw_done (by kernel_rfl) ?_
          clear hK
          refine cw_ret ?_
          refine res3 (v := .int .u64 _) (v2 := .int .i64 _) (v3 := errV ad _) rfl rfl rfl rfl ?_
          exact ⟨_, rfl, rfl, hs⟩
        · intro h24
          have g24 := of_decide_eq_false h24
          rw [if_neg (by omega)] at hv
          have hc9 : i = 9 → ch.toNat ≤ 1 := fun _ => by omega
          obtain ⟨hx1, hx2, hx3⟩ := seven_in hsm (by omega) hc9
          refine cw_skip ?_
          refine cw_seq ?_
          refine cw_region ?_
          refine lw_val rfl (run_move (v := .int .u64 _) rfl) ?_
          refine lw_val rfl (run_move (v := .int .u8 _) rfl) ?_
          refine lw_val rfl (run_bits (v := .int .u8 ((ch.toNat % 128 : Nat) : Int)) (by simp) rfl rfl (by rw [← low7b ch]; rfl)) ?_
          refine lw_val rfl (run_convIn Tryz.underlying5 Tryz.underlying172 rfl (c := ((ch.toNat % 128 : Nat) : Int)) (by rw [wrap_u64]; omega)) ?_
          refine lw_val rfl (run_move (v := .int .i64 _) rfl) ?_
          refine lw_val rfl (run_mul64 rfl rfl (c := ((7 * i : Nat) : Int)) (by omega) (inI (by omega) (by omega))) ?_
          refine lw_val rfl (run_shl rfl rfl (n := 7 * i) (c := ((ch.toNat % 128 * 2 ^ (7 * i) : Nat) : Int)) rfl (by show 7 * i ≤ 64; omega) (by rw [wrap_u64, show ((ch.toNat % 128 : Nat) : Int) * 2 ^ (7 * i) = ((ch.toNat % 128 * 2 ^ (7 * i) : Nat) : Int) by push_cast; rfl]; omega)) ?_
          refine lw_val rfl (run_bits (v := .int .u64 ((s + ch.toNat % 128 * 2 ^ (7 * i) : Nat) : Int)) (by simp) rfl rfl (by rw [← or_add hsm, ← or_u64 s _ (by omega) hx2]; rfl)) ?_
          refine lw_val rfl (run_assign (v := .int .u64 _) rfl) ?_
          refine lw_nil ?_
          refine cw_seq ?_
          refine cw_seq ?_
          refine cw_region ?_
          refine lw_val rfl (run_move (v := .int .u8 _) rfl) ?_
          refine lw_val rfl (run_geq rfl rfl) ?_
          refine lw_nil ?_
          refine cw_if rfl ?_ ?_
          · intro h35
            have g35 := of_decide_eq_true h35
            rw [if_pos (by omega)] at hv
            refine cw_exit rfl ?_
            refine cw_region ?_
            refine lw_val rfl (run_add64 rfl rfl rfl (inI (by omega) (by omega))) ?_
            refine lw_val rfl (run_move (v := .int .i64 _) rfl) ?_
            refine lw_nil ?_
            exact ⟨(i + 1, s + ch.toNat % 128 * 2 ^ (7 * i)), by simp only; omega, ⟨by simp only; omega, hx3, by show vgetF (10 - (i + 1)) (i + 1) _ b = _; rw [show 10 - (i + 1) = 9 - i by omega]; exact hv, hs⟩, ⟨rfl, rfl, trivial⟩, by repeat (first | exact Out.mix _ _ _ | refine Out.updo rfl ?_ | refine Out.upd rfl ?_ | refine Out.mixIn rfl ?_)⟩
          · intro h35
            have g35 := of_decide_eq_false h35
            rw [if_neg (by omega)] at hv
            refine cw_skip ?_
            refine cw_seq ?_
            refine cw_seq ?_
            refine cw_region ?_
            refine lw_val rfl (run_move (v := .int .i64 _) rfl) ?_
            refine lw_val rfl (run_gtr rfl rfl) ?_
            refine lw_val rfl (run_move (v := .bool _) rfl) ?_
            refine lw_split (t := _) (d := 38) rfl ?_ ?_
            · intro h37
              have g37 := of_decide_eq_true h37
              refine lw_on rfl rfl h37 ?_
              refine lw_val rfl (run_move (v := .int .u8 _) rfl) ?_
              refine lw_on rfl rfl h37 ?_
              refine lw_val rfl (run_eqi rfl rfl) ?_
              refine lw_val rfl (run_pickT (v := .bool _) rfl h37 rfl) ?_
              refine lw_nil ?_
              refine cw_if rfl ?_ ?_
              · intro h40
                have g40 := of_decide_eq_true h40
                rw [if_pos ⟨by omega, by omega⟩] at hv
                cases hv
                refine cw_exit rfl ?_
                refine cw_seq ?_
                refine cw_drawS mixes hs ?_
                intro w tr hK
                replace hs := tr _ hs
                clear tr
                refine aw_take 0 rfl (by kernel_rfl) (by kernel_rfl) (by kernel_rfl) rfl (fun w hs => run_load Tryz.underlying30 rfl rfl (hE.cellW hs 103 (by decide) rfl)) hK ?_
                refine aw_take 1 rfl (by kernel_rfl) (by kernel_rfl) (by kernel_rfl) rfl (fun w hs => run_assign (v := .int .u64 _) rfl) hK ?_
                refine aw_take 2 rfl (by kernel_rfl) (by kernel_rfl) (by kernel_rfl) rfl (fun w hs => run_assign (v := .int .i64 _) rfl) hK ?_
                refine aw_take 3 rfl (by kernel_rfl) (by kernel_rfl) (by kernel_rfl) rfl (fun w hs => run_assign (v := errV ad _) rfl) hK ?_
                refine aw_done (by kernel_rfl) ?_
                clear hK
                refine cw_ret ?_
                refine res3 (v := .int .u64 _) (v2 := .int .i64 _) (v3 := errV ad _) rfl rfl rfl rfl ?_
                exact ⟨_, rfl, rfl, hs⟩
              · intro h40
                have g40 := of_decide_eq_false h40
                rw [if_neg (by omega)] at hv
                cases hv
                refine cw_skip ?_
                refine cw_seq ?_
                refine cw_region ?_
                refine lw_val rfl (run_move (v := .int .u64 _) rfl) ?_
                refine lw_val rfl (run_move (v := .int .i64 _) rfl) ?_
                refine lw_val rfl (run_add64 rfl rfl rfl (inI (by omega) (by omega))) ?_
                refine lw_val rfl (run_assign (v := .int .u64 _) rfl) ?_
                refine lw_val rfl (run_assign (v := .int .i64 _) rfl) ?_
                refine lw_val rfl (run_assign (v := .nilIface) rfl) ?_
                refine lw_nil ?_
                refine cw_ret ?_
                refine res3 (v := .int .u64 _) (v2 := .int .i64 _) (v3 := .nilIface) rfl rfl rfl rfl ?_
                exact ⟨_, rfl, (by rw [errV_zero]; rfl), hs⟩
            · intro h37
              have g37 := of_decide_eq_false h37
              rw [if_neg (by omega)] at hv
              cases hv
              refine lw_off rfl rfl rfl h37 ?_
              refine lw_off rfl rfl rfl h37 ?_
              refine lw_val rfl (run_pickF (v := .bool _) rfl h37 rfl) ?_
              refine lw_nil ?_
              refine cw_iff rfl rfl ?_
              refine cw_skip ?_
              refine cw_seq ?_
              refine cw_region ?_
              refine lw_val rfl (run_move (v := .int .u64 _) rfl) ?_
              refine lw_val rfl (run_move (v := .int .i64 _) rfl) ?_
              refine lw_val rfl (run_add64 rfl rfl rfl (inI (by omega) (by omega))) ?_
              refine lw_val rfl (run_assign (v := .int .u64 _) rfl) ?_
              refine lw_val rfl (run_assign (v := .int .i64 _) rfl) ?_
              refine lw_val rfl (run_assign (v := .nilIface) rfl) ?_
              refine lw_nil ?_
              refine cw_ret ?_
              refine res3 (v := .int .u64 _) (v2 := .int .i64 _) (v3 := .nilIface) rfl rfl rfl rfl ?_
              exact ⟨_, rfl, (by rw [errV_zero]; rfl), hs⟩
      · intro h21
        have g21 := of_decide_eq_false h21
        rw [if_neg (by omega)] at hv
        have hc9 : i = 9 → ch.toNat ≤ 1 := fun h => by omega
        obtain ⟨hx1, hx2, hx3⟩ := seven_in hsm (by omega) hc9
        refine lw_off rfl rfl rfl h21 ?_
        refine lw_off rfl rfl rfl h21 ?_
        refine lw_val rfl (run_pickF (v := .bool _) rfl h21 rfl) ?_
        refine lw_nil ?_
        refine cw_iff rfl rfl ?_
        refine cw_skip ?_
        refine cw_seq ?_
        refine cw_region ?_
        refine lw_val rfl (run_move (v := .int .u64 _) rfl) ?_
        refine lw_val rfl (run_move (v := .int .u8 _) rfl) ?_
        refine lw_val rfl (run_bits (v := .int .u8 ((ch.toNat % 128 : Nat) : Int)) (by simp) rfl rfl (by rw [← low7b ch]; rfl)) ?_
        refine lw_val rfl (run_convIn Tryz.underlying5 Tryz.underlying172 rfl (c := ((ch.toNat % 128 : Nat) : Int)) (by rw [wrap_u64]; omega)) ?_
        refine lw_val rfl (run_move (v := .int .i64 _) rfl) ?_
        refine lw_val rfl (run_mul64 rfl rfl (c := ((7 * i : Nat) : Int)) (by omega) (inI (by omega) (by omega))) ?_
        refine lw_val rfl (run_shl rfl rfl (n := 7 * i) (c := ((ch.toNat % 128 * 2 ^ (7 * i) : Nat) : Int)) rfl (by show 7 * i ≤ 64; omega) (by rw [wrap_u64, show ((ch.toNat % 128 : Nat) : Int) * 2 ^ (7 * i) = ((ch.toNat % 128 * 2 ^ (7 * i) : Nat) : Int) by push_cast; rfl]; omega)) ?_
        refine lw_val rfl (run_bits (v := .int .u64 ((s + ch.toNat % 128 * 2 ^ (7 * i) : Nat) : Int)) (by simp) rfl rfl (by rw [← or_add hsm, ← or_u64 s _ (by omega) hx2]; rfl)) ?_
        refine lw_val rfl (run_assign (v := .int .u64 _) rfl) ?_
        refine lw_nil ?_
        refine cw_seq ?_
        refine cw_seq ?_
        refine cw_region ?_
        refine lw_val rfl (run_move (v := .int .u8 _) rfl) ?_
        refine lw_val rfl (run_geq rfl rfl) ?_
        refine lw_nil ?_
        refine cw_if rfl ?_ ?_
        · intro h35
          have g35 := of_decide_eq_true h35
          rw [if_pos (by omega)] at hv
          refine cw_exit rfl ?_
          refine cw_region ?_
          refine lw_val rfl (run_add64 rfl rfl rfl (inI (by omega) (by omega))) ?_
          refine lw_val rfl (run_move (v := .int .i64 _) rfl) ?_
          refine lw_nil ?_
          exact ⟨(i + 1, s + ch.toNat % 128 * 2 ^ (7 * i)), by simp only; omega, ⟨by simp only; omega, hx3, by show vgetF (10 - (i + 1)) (i + 1) _ b = _; rw [show 10 - (i + 1) = 9 - i by omega]; exact hv, hs⟩, ⟨rfl, rfl, trivial⟩, by repeat (first | exact Out.mix _ _ _ | refine Out.updo rfl ?_ | refine Out.upd rfl ?_ | refine Out.mixIn rfl ?_)⟩
        · intro h35
          have g35 := of_decide_eq_false h35
          rw [if_neg (by omega)] at hv
          refine cw_skip ?_
          refine cw_seq ?_
          refine cw_seq ?_
          refine cw_region ?_
          refine lw_val rfl (run_move (v := .int .i64 _) rfl) ?_
          refine lw_val rfl (run_gtr rfl rfl) ?_
          refine lw_val rfl (run_move (v := .bool _) rfl) ?_
          refine lw_split (t := _) (d := 38) rfl ?_ ?_
          · intro h37
            have g37 := of_decide_eq_true h37
            refine lw_on rfl rfl h37 ?_
            refine lw_val rfl (run_move (v := .int .u8 _) rfl) ?_
            refine lw_on rfl rfl h37 ?_
            refine lw_val rfl (run_eqi rfl rfl) ?_
            refine lw_val rfl (run_pickT (v := .bool _) rfl h37 rfl) ?_
            refine lw_nil ?_
            refine cw_if rfl ?_ ?_
            · intro h40
              have g40 := of_decide_eq_true h40
              rw [if_pos ⟨by omega, by omega⟩] at hv
              cases hv
              refine cw_exit rfl ?_
              refine cw_seq ?_
              refine cw_drawS mixes hs ?_
              intro w tr hK
              replace hs := tr _ hs
              clear tr
              refine aw_take 0 rfl (by kernel_rfl) (by kernel_rfl) (by kernel_rfl) rfl (fun w hs => run_load Tryz.underlying30 rfl rfl (hE.cellW hs 103 (by decide) rfl)) hK ?_
              refine aw_take 1 rfl (by kernel_rfl) (by kernel_rfl) (by kernel_rfl) rfl (fun w hs => run_assign (v := .int .u64 _) rfl) hK ?_
              refine aw_take 2 rfl (by kernel_rfl) (by kernel_rfl) (by kernel_rfl) rfl (fun w hs => run_assign (v := .int .i64 _) rfl) hK ?_
              refine aw_take 3 rfl (by kernel_rfl) (by kernel_rfl) (by kernel_rfl) rfl (fun w hs => run_assign (v := errV ad _) rfl) hK ?_
              refine aw_done (by kernel_rfl) ?_
              clear hK
              refine cw_ret ?_
              refine res3 (v := .int .u64 _) (v2 := .int .i64 _) (v3 := errV ad _) rfl rfl rfl rfl ?_
              exact ⟨_, rfl, rfl, hs⟩
            · intro h40
              have g40 := of_decide_eq_false h40
              rw [if_neg (by omega)] at hv
              cases hv
              refine cw_skip ?_
              refine cw_seq ?_
              refine cw_region ?_
              refine lw_val rfl (run_move (v := .int .u64 _) rfl) ?_
              refine lw_val rfl (run_move (v := .int .i64 _) rfl) ?_
              refine lw_val rfl (run_add64 rfl rfl rfl (inI (by omega) (by omega))) ?_
              refine lw_val rfl (run_assign (v := .int .u64 _) rfl) ?_
              refine lw_val rfl (run_assign (v := .int .i64 _) rfl) ?_
              refine lw_val rfl (run_assign (v := .nilIface) rfl) ?_
              refine lw_nil ?_
              refine cw_ret ?_
              refine res3 (v := .int .u64 _) (v2 := .int .i64 _) (v3 := .nilIface) rfl rfl rfl rfl ?_
              exact ⟨_, rfl, (by rw [errV_zero]; rfl), hs⟩
          · intro h37
            have g37 := of_decide_eq_false h37
            rw [if_neg (by omega)] at hv
            cases hv
            refine lw_off rfl rfl rfl h37 ?_
            refine lw_off rfl rfl rfl h37 ?_
            refine lw_val rfl (run_pickF (v := .bool _) rfl h37 rfl) ?_
            refine lw_nil ?_
            refine cw_iff rfl rfl ?_
            refine cw_skip ?_
            refine cw_seq ?_
            refine cw_region ?_
            refine lw_val rfl (run_move (v := .int .u64 _) rfl) ?_
            refine lw_val rfl (run_move (v := .int .i64 _) rfl) ?_
            refine lw_val rfl (run_add64 rfl rfl rfl (inI (by omega) (by omega))) ?_
            refine lw_val rfl (run_assign (v := .int .u64 _) rfl) ?_
            refine lw_val rfl (run_assign (v := .int .i64 _) rfl) ?_
            refine lw_val rfl (run_assign (v := .nilIface) rfl) ?_
            refine lw_nil ?_
            refine cw_ret ?_
            refine res3 (v := .int .u64 _) (v2 := .int .i64 _) (v3 := .nilIface) rfl rfl rfl rfl ?_
            exact ⟨_, rfl, (by rw [errV_zero]; rfl), hs⟩
  · intro h9
    have g9 := of_decide_eq_false h9
    refine cw_exit rfl ?_
    refine cw_seq ?_
    refine cw_drawS mixes hs ?_
    intro w tr hK
    replace hs := tr _ hs
    clear tr
    refine aw_take 0 rfl (by kernel_rfl) (by kernel_rfl) (by kernel_rfl) rfl (fun w hs => run_load Tryz.underlying30 rfl rfl (hE.cellW hs 103 (by decide) rfl)) hK ?_
    refine aw_take 1 rfl (by kernel_rfl) (by kernel_rfl) (by kernel_rfl) rfl (fun w hs => run_assign (v := .int .u64 _) rfl) hK ?_
    refine aw_take 2 rfl (by kernel_rfl) (by kernel_rfl) (by kernel_rfl) rfl (fun w hs => run_assign (v := .int .i64 _) rfl) hK ?_
    refine aw_take 3 rfl (by kernel_rfl) (by kernel_rfl) (by kernel_rfl) rfl (fun w hs => run_assign (v := errV ad _) rfl) hK ?_
    refine aw_done (by kernel_rfl) ?_
    clear hK
    refine cw_ret ?_
    refine res3 (v := .int .u64 _) (v2 := .int .i64 _) (v3 := errV ad _) rfl rfl rfl rfl ?_
    obtain rfl : i = 10 := by omega
    cases hv
    exact ⟨_, rfl, rfl, hs⟩

/-! ### GetInt -/
def vgetI (b : List UInt8) : Nat × Int × Nat := ((vget b).1, zag (vget b).2.1, (vget b).2.2)
theorem vgetF_lt : ∀ {f i n : Nat} {b : List UInt8} {k m q : Nat}, i + f = 10 → n < 2 ^ (7 * i) → vgetF f i n b = (k, m, q) → m < 18446744073709551616
  | 0, _, _, _, _, _, _, _, _, h => by cases h; decide
  | f + 1, i, n, b, k, m, q, hi, hn, h => by
    cases hb : b[i]? with
    | none => rw [vgetF_none hb] at h; cases h; decide
    | some c =>
      rw [vgetF_some hb] at h
      split at h
      · cases h; decide
      · rename_i h1
        have hx := seven_in hn (by omega) (fun e => by omega : i = 9 → c.toNat ≤ 1)
        split at h
        · exact vgetF_lt (by omega) hx.2.2 h
        · split at h
          · cases h; decide
          · cases h; exact hx.1
theorem vget_lt {b : List UInt8} {k m q : Nat} (h : vget b = (k, m, q)) : m < 18446744073709551616 := vgetF_lt rfl (by decide) h
theorem wrap_i64 {n : Int} (h : InI64 n) : IntKind.i64.wrap n = n := h.wrap
theorem xor_i64_0 (m : Nat) (h : m < 9223372036854775808) : bits .xor .i64 (m : Int) 0 = (m : Int) := by
  show IntKind.i64.wrap ((BitVec.ofInt 64 (m : Int) ^^^ BitVec.ofInt 64 0).toNat : Int) = _
  rw [show BitVec.ofInt 64 0 = 0#64 from rfl, BitVec.xor_zero, u64_nat m (by omega)]
  exact wrap_i64 ⟨by omega, by omega⟩
theorem xor_i64_1 (m : Nat) (h : m < 9223372036854775808) : bits .xor .i64 (m : Int) (-1) = -(m : Int) - 1 := by
  have hx : (BitVec.ofInt 64 (m : Int) ^^^ BitVec.ofInt 64 (-1)).toNat = 18446744073709551615 - m := by
    rw [show BitVec.ofInt 64 (-1) = BitVec.allOnes 64 from rfl, BitVec.xor_allOnes, BitVec.toNat_not, u64_nat m (by omega)]
  show IntKind.i64.wrap ((BitVec.ofInt 64 (m : Int) ^^^ BitVec.ofInt 64 (-1)).toNat : Int) = _
  rw [hx]
  simp only [IntKind.wrap, IntKind.bits, IntKind.signed]
  have h64 : (2 : Int) ^ 64 = 18446744073709551616 := by decide
  have h63 : (2 : Int) ^ (64 - 1) = 9223372036854775808 := by decide
  simp only [h64, h63]
  have e : ((18446744073709551615 - m : Nat) : Int) % 18446744073709551616 = 18446744073709551615 - (m : Int) := by omega
  simp only [e, Bool.true_and, decide_eq_true_eq]
  rw [if_pos (by omega)]
  omega
theorem zag_bits (n : Nat) (h : n < 18446744073709551616) : bits .xor .i64 ((n / 2 : Nat) : Int) (-((n % 2 : Nat) : Int)) = zag n := by
  unfold zag
  rcases Nat.mod_two_eq_zero_or_one n with h2 | h2
  · rw [h2, if_pos rfl]; exact xor_i64_0 _ (by omega)
  · rw [h2, if_neg (by decide)]; exact xor_i64_1 _ (by omega)
theorem vgetI_sl (hE : ErrW ad g) (hs : Mem g w L) {a : Option Addr} {m c : Nat} {b : List UInt8} (hr : Rd g L (.slice a m c) (bytesL b)) (hm : m = b.length) (hlen : b.length ≤ 1073741824) {k q : Nat} {z : Int} (hk : vgetI b = (k, z, q)) :
    Calls Tryz.prog 238 #[.slice a m c] w (Ret fun v w' => v = .tuple #[.int .i64 z, .int .i64 q, errV ad k] ∧ Mem g w' L) := by
  obtain ⟨k0, n, q0, hv⟩ : ∃ k n q, vget b = (k, n, q) := ⟨_, _, _, rfl⟩
  have hn := vget_lt hv
  simp only [vgetI, hv, Prod.mk.injEq] at hk
  obtain ⟨rfl, rfl, rfl⟩ := hk
  have hand : n &&& 1 = n % 2 := Nat.and_one_is_mod n
  refine calls_cw Tryz.func238 rfl rfl ?_
  skip
  refine cw_seq ?_
  refine cw_region ?_
  refine lw_val rfl (run_assign (v := .int .i64 _) rfl) ?_
  refine lw_val rfl (run_assign (v := .int .i64 _) rfl) ?_
  refine lw_val rfl (run_assign (v := .nilIface) rfl) ?_
  refine lw_nil ?_
  refine cw_seq ?_
  refine cw_region ?_
  refine lw_val rfl (run_move (v := .slice _ _ _) rfl) ?_
  refine lw_call rfl en200 (vget_sl hE hs hr hm hlen hv) ?_
  clear hs
  rintro _ w ⟨rfl, hs⟩
  refine lw_val rfl (run_move (v := .tuple _) rfl) ?_
  refine lw_val rfl (run_extract (v := .int .u64 _) rfl rfl) ?_
  refine lw_val rfl (run_extract (v := .int .i64 _) rfl rfl) ?_
  refine lw_val rfl (run_extract (v := errV ad _) rfl rfl) ?_
  refine lw_val rfl (run_assign (v := .int .u64 _) rfl) ?_
  refine lw_val rfl (run_assign (v := .int .i64 _) rfl) ?_
  refine lw_val rfl (run_assign (v := errV ad _) rfl) ?_
  refine lw_nil ?_
  refine cw_seq ?_
  refine cw_region ?_
  refine lw_val rfl (run_move (v := .int .u64 _) rfl) ?_
  refine lw_val rfl (run_shr rfl rfl (n := 1) (c := ((n / 2 : Nat) : Int)) rfl (by decide) (by omega)) ?_
  refine lw_val rfl (run_convIn Tryz.underlying172 Tryz.underlying2 rfl (c := ((n / 2 : Nat) : Int)) (wrap_i64 ⟨by omega, by omega⟩)) ?_
  refine lw_val rfl (run_move (v := .int .u64 _) rfl) ?_
  refine lw_val rfl (run_bits (v := .int .u64 ((n % 2 : Nat) : Int)) (by simp) rfl rfl (by rw [← hand, ← and_u64 n 1 hn (by decide)]; rfl)) ?_
  refine lw_val rfl (run_convIn Tryz.underlying172 Tryz.underlying2 rfl (c := ((n % 2 : Nat) : Int)) (wrap_i64 ⟨by omega, by omega⟩)) ?_
  refine lw_val rfl (run_neg64 rfl (c := -((n % 2 : Nat) : Int)) rfl (inI (by omega) (by omega))) ?_
  refine lw_val rfl (run_bits (v := .int .i64 (zag n)) (by simp) rfl rfl (by rw [← zag_bits n hn]; rfl)) ?_
  refine lw_val rfl (run_move (v := .int .i64 _) rfl) ?_
  refine lw_val rfl (run_move (v := errV ad _) rfl) ?_
  refine lw_val rfl (run_assign (v := .int .i64 _) rfl) ?_
  refine lw_val rfl (run_assign (v := .int .i64 _) rfl) ?_
  refine lw_val rfl (run_assign (v := errV ad _) rfl) ?_
  refine lw_nil ?_
  refine cw_ret ?_
  refine res3 (v := .int .i64 _) (v2 := .int .i64 _) (v3 := errV ad _) rfl rfl rfl rfl ?_
  exact ⟨_, rfl, rfl, hs⟩

/-! ### errors with a place -/
theorem run_neerr {ρ : Env} {dst : Option Tmp} {ty : TypeId} {pos : String} {aft : Array Edge} {x y : Operand} {u : TypeId} {Lc : List Nat} {B : Nat} (h : Errs Lc ad B w) {c d : Nat} (hc : c = 0 ∨ c ∈ Lc) (hd : d ∈ Lc) (hx : ev ρ x = errV ad c) (hy : ev ρ y = errV ad d) : (execOp (ev ρ) ⟨dst, .binOp .neq 30 x y u, ty, pos, aft, none⟩).run Tryz.prog w = .ok (.value (.bool (!decide (c = d)))) w := by
  have hgd := guard_code ad .neq 30 x y (w := w) c (h.pos d hd)
  simp only [execOp, hx, hy, Sem.run_bind, hgd, binOp_errN, equal_err h hc hd, Result.andThen_ok, Sem.run_pure]
/-- An error of the reader's: none, the bare one, or one with a place (in block eb). -/
def eV (ad : Nat → Addr) (c eb : Nat) : Value := if c = 0 then .nilIface else if c = 101 then errV ad 101 else .iface 185 (.pointer (some ⟨eb, 0, none⟩))
theorem eV_0 (eb : Nat) : eV ad 0 eb = .nilIface := rfl
theorem eV_101 (eb : Nat) : eV ad 101 eb = errV ad 101 := rfl
theorem eV_at {c : Nat} (h0 : c ≠ 0) (h1 : c ≠ 101) (eb : Nat) : eV ad c eb = .iface 185 (.pointer (some ⟨eb, 0, none⟩)) := by simp [eV, h0, h1]
theorem eV_one (c eb : Nat) : (eV ad c eb).oneCell' = true := by
  unfold eV
  split
  · rfl
  · split
    · unfold errV; split <;> rfl
    · rfl
section
variable {ρ : Env} {dst : Option Tmp} {ty : TypeId} {pos : String} {aft : Array Edge} {x : Operand} {u : TypeId} {c eb : Nat}
theorem run_eqE (hx : ev ρ x = eV ad c eb) : (execOp (ev ρ) ⟨dst, .binOp .eql 30 x (.const .nilIface) u, ty, pos, aft, none⟩).run Tryz.prog w = .ok (.value (.bool (decide (c = 0)))) w := by
  unfold eV at hx
  split at hx
  · rename_i h; subst h; exact run_eqnn hx
  · rename_i h
    split at hx
    · rename_i h1; subst h1; exact run_eqerrn hx
    · rw [decide_eq_false h]
      have hy : ev ρ (.const .nilIface) = .nilIface := rfl
      have hg : (eqGuard .eql 30 x (.const .nilIface) (.iface 185 (.pointer (some ⟨eb, 0, none⟩))) .nilIface).run Tryz.prog w = .ok () w := by cases x <;> rfl
      have hb : binOp .eql 30 (.iface 185 (.pointer (some ⟨eb, 0, none⟩))) .nilIface = (do pure (.bool (← Op.equal 30 (.iface 185 (.pointer (some ⟨eb, 0, none⟩))) .nilIface))) := rfl
      have he : (Op.equal 30 (.iface 185 (.pointer (some ⟨eb, 0, none⟩))) .nilIface).run Tryz.prog w = .ok false w := by
        show (Op.equalIn 10000 _ _ _).run Tryz.prog w = _
        rw [Op.equalIn]
        simp [run_underlying Tryz.underlying30]
      simp only [execOp, hx, hy, Sem.run_bind, hg, hb, he, Result.andThen_ok, Sem.run_pure]
theorem run_neE (hx : ev ρ x = eV ad c eb) : (execOp (ev ρ) ⟨dst, .binOp .neq 30 x (.const .nilIface) u, ty, pos, aft, none⟩).run Tryz.prog w = .ok (.value (.bool (!decide (c = 0)))) w := by
  unfold eV at hx
  split at hx
  · rename_i h; subst h; exact run_nenn hx
  · rename_i h
    split at hx
    · rename_i h1; subst h1; exact run_neerrn hx
    · rw [decide_eq_false h]
      have hy : ev ρ (.const .nilIface) = .nilIface := rfl
      have hg : (eqGuard .neq 30 x (.const .nilIface) (.iface 185 (.pointer (some ⟨eb, 0, none⟩))) .nilIface).run Tryz.prog w = .ok () w := by cases x <;> rfl
      have hb : binOp .neq 30 (.iface 185 (.pointer (some ⟨eb, 0, none⟩))) .nilIface = (do pure (.bool (!(← Op.equal 30 (.iface 185 (.pointer (some ⟨eb, 0, none⟩))) .nilIface)))) := rfl
      have he : (Op.equal 30 (.iface 185 (.pointer (some ⟨eb, 0, none⟩))) .nilIface).run Tryz.prog w = .ok false w := by
        show (Op.equalIn 10000 _ _ _).run Tryz.prog w = _
        rw [Op.equalIn]
        simp [run_underlying Tryz.underlying30]
      simp only [execOp, hx, hy, Sem.run_bind, hg, hb, he, Result.andThen_ok, Sem.run_pure]
end
/-- What a placed error points at. -/
def errC (ad : Nat → Addr) (eb at_ c : Nat) : HP := if c = 0 ∨ c = 101 then emp else cells eb [.int .i64 at_, errV ad c] 187
theorem emp_ok (w : World) : emp.ok (fun _ => False) w := fun _ h => h
theorem errC_bare {eb at_ c : Nat} (h : c = 0 ∨ c = 101) : errC ad eb at_ c = emp := if_pos h
theorem errC_at {eb at_ c : Nat} (h : ¬ (c = 0 ∨ c = 101)) : errC ad eb at_ c = cells eb [.int .i64 at_, errV ad c] 187 := if_neg h
/-- The reader: its bytes, where it is, what was amiss. -/
def RdrC (rb : Nat) (ad : Nat → Addr) (b : List UInt8) (st : Nat × Nat) : HP := ex fun x : Option Addr × Nat × Nat => also (stars [cells rb [.slice x.1 b.length x.2.1, .int .i64 st.1, eV ad st.2 x.2.2] 243, own (.slice x.1 b.length x.2.1) (bytesL b), errC ad x.2.2 st.1 st.2]) (st.1 ≤ b.length)
theorem Mem.openR {rb : Nat} {b : List UInt8} {st : Nat × Nat} (hs : Mem g w (RdrC rb ad b st :: L)) : st.1 ≤ b.length ∧ ∃ a c eb, b.length ≤ c ∧ Mem g w (cells rb [.slice a b.length c, .int .i64 st.1, eV ad st.2 eb] 243 :: own (.slice a b.length c) (bytesL b) :: errC ad eb st.1 st.2 :: L) := by
  obtain ⟨⟨a, c, eb⟩, h⟩ := hs.unex
  obtain ⟨h1, h2⟩ := h.unalso
  have h3 := h2.unstars
  exact ⟨h1, a, c, eb, (h3.ownForm 1 rfl).2.1, h3⟩
theorem Mem.closeR {rb : Nat} {b : List UInt8} {st : Nat × Nat} {a : Option Addr} {c eb : Nat} (hl : st.1 ≤ b.length) (hs : Mem g w (cells rb [.slice a b.length c, .int .i64 st.1, eV ad st.2 eb] 243 :: own (.slice a b.length c) (bytesL b) :: errC ad eb st.1 st.2 :: L)) : Mem g w (RdrC rb ad b st :: L) :=
  Mem.ex (f := fun x : Option Addr × Nat × Nat => Go.Proofs.YtkogkokmcmallaaGreatDoor.also (Go.Proofs.YtkogkokmcmallaaGreatDoor.stars [cells rb [.slice x.1 b.length x.2.1, .int .i64 st.1, eV ad st.2 x.2.2] 243, own (.slice x.1 b.length x.2.1) (bytesL b), errC ad x.2.2 st.1 st.2]) (st.1 ≤ b.length)) (a, c, eb) (Mem.also hl (Mem.stars (M := [cells rb [.slice a b.length c, .int .i64 st.1, eV ad st.2 eb] 243, own (.slice a b.length c) (bytesL b), errC ad eb st.1 st.2]) hs))
theorem Mem.closeR0 {rb at_ e0 : Nat} {b : List UInt8} {a : Option Addr} {c eb : Nat} (hl : at_ ≤ b.length) (hs : Mem g w (cells rb [.slice a b.length c, .int .i64 at_, .nilIface] 243 :: own (.slice a b.length c) (bytesL b) :: errC ad eb e0 0 :: L)) : Mem g w (RdrC rb ad b (at_, 0) :: L) :=
  Mem.closeR (st := (at_, 0)) (a := a) (c := c) (eb := 0) hl hs
attribute [local irreducible] eV
theorem newr_sl (ad : Nat → Addr) (hs : Mem g w L) {a : Option Addr} {m c : Nat} {b : List UInt8} (hr : Rd g L (.slice a m c) (bytesL b)) (hm : m = b.length) (hlen : b.length ≤ 1073741824) :
    Calls Tryz.prog 116 #[.slice a m c] w (Ret fun v w' => ∃ rb, v = .pointer (some ⟨rb, 0, none⟩) ∧ Mem g w' (RdrC rb ad b (0, 0) :: L)) := by
  subst hm
  refine calls_cw Tryz.func116 rfl rfl ?_
  skip
  refine cw_seq ?_
  refine cw_region ?_
  refine lw_val rfl (run_assign (v := .pointer none) rfl) ?_
  refine lw_nil ?_
  refine cw_seq ?_
  refine cw_region ?_
  refine lw_val rfl (run_move (v := .slice _ _ _) rfl) ?_
  refine lw_call rfl en94 (clone_sl hs (l := b) hr hlen) ?_
  clear hs
  rintro _ w ⟨a4, c4, rfl, hs⟩
  rw [bytesL_len] at hs ⊢
  refine lw_val rfl (run_build (cs := [.slice a4 b.length c4, .int .i64 0, .nilIface]) Tryz.underlying243 ze243 pl243 rfl) ?_
  refine lw_box (v := .agg _) hs rfl rfl ?_
  clear hs
  intro b6 w hs
  refine lw_val rfl (run_assign (v := .pointer (some _)) rfl) ?_
  refine lw_nil ?_
  refine cw_ret ?_
  refine res1 (v := .pointer (some _)) rfl rfl ?_
  exact ⟨_, rfl, b6, rfl, Mem.closeR (st := (0, 0)) (a := a4) (c := c4) (eb := 0) (Nat.zero_le _) (by show Mem g w (cells b6 [_, _, eV ad 0 0] _ :: _ :: errC ad 0 0 0 :: L); rw [eV_0, errC_bare (.inl rfl)]; exact (hs.addE (emp_ok _)).arr [1, 2, 0] 3 (by decide))⟩
theorem err_sl {rb : Nat} {b : List UInt8} {st : Nat × Nat} (hs : Mem g w (RdrC rb ad b st :: L)) : Calls Tryz.prog 118 #[.pointer (some ⟨rb, 0, none⟩)] w (Ret fun v w' => ∃ eb, v = eV ad st.2 eb ∧ Mem g w' (RdrC rb ad b st :: L)) := by
  obtain ⟨hl, a, c, eb, hc, hs⟩ := hs.openR
  refine calls_cw Tryz.func118 rfl rfl ?_
  skip
  refine cw_seq ?_
  refine cw_region ?_
  refine lw_val rfl (run_assign (v := .nilIface) rfl) ?_
  refine lw_nil ?_
  refine cw_seq ?_
  refine cw_region ?_
  refine lw_val rfl (run_move (v := .pointer (some _)) rfl) ?_
  refine lw_val rfl (run_nilCheckP rfl) ?_
  refine lw_val rfl (run_fieldAddr (o' := 2) Tryz.underlying243 rfl sz30 rfl rfl rfl) ?_
  refine lw_val rfl (run_load Tryz.underlying30 rfl rfl (hs.cellAt 0 rfl rfl)) ?_
  refine lw_val rfl (run_assign (v := eV ad _ _) rfl) ?_
  refine lw_nil ?_
  refine cw_ret ?_
  refine res1 (v := eV ad _ _) rfl rfl ?_
  exact ⟨_, rfl, eb, rfl, Mem.closeR hl hs⟩
/-- The error handed on: the reader is let go. -/
theorem errC_sl {rb : Nat} {b : List UInt8} {st : Nat × Nat} (hs : Mem g w (RdrC rb ad b st :: L)) : Calls Tryz.prog 118 #[.pointer (some ⟨rb, 0, none⟩)] w (Ret fun v w' => ∃ eb, v = eV ad st.2 eb ∧ Mem g w' (errC ad eb st.1 st.2 :: L)) := by
  obtain ⟨hl, a, c, eb, hc, hs⟩ := hs.openR
  refine calls_cw Tryz.func118 rfl rfl ?_
  skip
  refine cw_seq ?_
  refine cw_region ?_
  refine lw_val rfl (run_assign (v := .nilIface) rfl) ?_
  refine lw_nil ?_
  refine cw_seq ?_
  refine cw_region ?_
  refine lw_val rfl (run_move (v := .pointer (some _)) rfl) ?_
  refine lw_val rfl (run_nilCheckP rfl) ?_
  refine lw_val rfl (run_fieldAddr (o' := 2) Tryz.underlying243 rfl sz30 rfl rfl rfl) ?_
  refine lw_val rfl (run_load Tryz.underlying30 rfl rfl (hs.cellAt 0 rfl rfl)) ?_
  refine lw_val rfl (run_assign (v := eV ad _ _) rfl) ?_
  refine lw_nil ?_
  refine cw_ret ?_
  refine res1 (v := eV ad _ _) rfl rfl ?_
  exact ⟨_, rfl, eb, rfl, hs.suffix 2 rfl⟩
theorem left_sl {rb : Nat} {b : List UInt8} {st : Nat × Nat} (hs : Mem g w (RdrC rb ad b st :: L)) (hlen : b.length ≤ 1073741824) : Calls Tryz.prog 122 #[.pointer (some ⟨rb, 0, none⟩)] w (Ret fun v w' => v = .int .i64 ((b.length - st.1 : Nat) : Int) ∧ st.1 ≤ b.length ∧ Mem g w' (RdrC rb ad b st :: L)) := by
  obtain ⟨hl, a, c, eb, hc, hs⟩ := hs.openR
  refine calls_cw Tryz.func122 rfl rfl ?_
  skip
  refine cw_seq ?_
  refine cw_region ?_
  refine lw_val rfl (run_assign (v := .int .i64 _) rfl) ?_
  refine lw_nil ?_
  refine cw_seq ?_
  refine cw_drawS mixes hs ?_
  intro w tr hK
  replace hs := tr _ hs
  clear tr
  refine aw_take 0 rfl (by kernel_rfl) (by kernel_rfl) (by kernel_rfl) rfl (fun w hs => run_move (v := .pointer (some _)) rfl) hK ?_
  refine aw_take 1 rfl (by kernel_rfl) (by kernel_rfl) (by kernel_rfl) rfl (fun w hs => run_nilCheckP rfl) hK ?_
  refine aw_take 2 rfl (by kernel_rfl) (by kernel_rfl) (by kernel_rfl) rfl (fun w hs => run_fieldAddr (o' := 0) Tryz.underlying243 rfl sz64 rfl rfl rfl) hK ?_
  refine aw_take 3 rfl (by kernel_rfl) (by kernel_rfl) (by kernel_rfl) rfl (fun w hs => run_load Tryz.underlying64 rfl rfl (hs.cellAt 0 rfl rfl)) hK ?_
  refine aw_take 4 rfl (by kernel_rfl) (by kernel_rfl) (by kernel_rfl) rfl (fun w hs => run_lenS Tryz.underlying64 rfl) hK ?_
  refine aw_take 5 rfl (by kernel_rfl) (by kernel_rfl) (by kernel_rfl) rfl (fun w hs => run_move (v := .pointer (some _)) rfl) hK ?_
  refine aw_take 6 rfl (by kernel_rfl) (by kernel_rfl) (by kernel_rfl) rfl (fun w hs => run_nilCheckP rfl) hK ?_
  refine aw_take 7 rfl (by kernel_rfl) (by kernel_rfl) (by kernel_rfl) rfl (fun w hs => run_fieldAddr (o' := 1) Tryz.underlying243 rfl sz3 rfl rfl rfl) hK ?_
  refine aw_take 8 rfl (by kernel_rfl) (by kernel_rfl) (by kernel_rfl) rfl (fun w hs => run_load Tryz.underlying3 rfl rfl (hs.cellAt 0 rfl rfl)) hK ?_
  refine aw_take 9 rfl (by kernel_rfl) (by kernel_rfl) (by kernel_rfl) rfl (fun w hs => run_sub64 rfl rfl (c := ((b.length - st.1 : Nat) : Int)) (by omega) (inI (by omega) (by omega))) hK ?_
  refine aw_take 10 rfl (by kernel_rfl) (by kernel_rfl) (by kernel_rfl) rfl (fun w hs => run_assign (v := .int .i64 _) rfl) hK ?_
  refine aw_done (by kernel_rfl) ?_
  clear hK
  refine cw_ret ?_
  refine res1 (v := .int .i64 _) rfl rfl ?_
  exact ⟨_, rfl, rfl, hl, Mem.closeR hl hs⟩
theorem at_sl {rb : Nat} {b : List UInt8} {st : Nat × Nat} (hs : Mem g w (RdrC rb ad b st :: L)) : Calls Tryz.prog 123 #[.pointer (some ⟨rb, 0, none⟩)] w (Ret fun v w' => v = .int .i64 (st.1 : Nat) ∧ Mem g w' (RdrC rb ad b st :: L)) := by
  obtain ⟨hl, a, c, eb, hc, hs⟩ := hs.openR
  refine calls_cw Tryz.func123 rfl rfl ?_
  skip
  refine cw_seq ?_
  refine cw_region ?_
  refine lw_val rfl (run_assign (v := .int .i64 _) rfl) ?_
  refine lw_nil ?_
  refine cw_seq ?_
  refine cw_region ?_
  refine lw_val rfl (run_move (v := .pointer (some _)) rfl) ?_
  refine lw_val rfl (run_nilCheckP rfl) ?_
  refine lw_val rfl (run_fieldAddr (o' := 1) Tryz.underlying243 rfl sz3 rfl rfl rfl) ?_
  refine lw_val rfl (run_load Tryz.underlying3 rfl rfl (hs.cellAt 0 rfl rfl)) ?_
  refine lw_val rfl (run_assign (v := .int .i64 _) rfl) ?_
  refine lw_nil ?_
  refine cw_ret ?_
  refine res1 (v := .int .i64 _) rfl rfl ?_
  exact ⟨_, rfl, rfl, Mem.closeR hl hs⟩
/-- An error is noted. -/
theorem bad_sl (hE : ErrW ad g) {rb at_ : Nat} {b : List UInt8} {k : Nat} (hk : k ∈ vintCodes) (hs : Mem g w (RdrC rb ad b (at_, 0) :: L)) : Calls Tryz.prog 201 #[.pointer (some ⟨rb, 0, none⟩), .int .i64 at_, errV ad k] w (Ret fun v w' => v = .tuple #[] ∧ Mem g w' (RdrC rb ad b (at_, k) :: L)) := by
  obtain ⟨hl, a, c, eb, hc, hs⟩ := hs.openR
  have hk0 : k ≠ 0 := fun e => by subst e; exact absurd hk (by decide)
  refine calls_cw Tryz.func201 rfl rfl ?_
  skip
  refine cw_seq ?_
  refine cw_region ?_
  refine lw_val rfl (run_move (v := .pointer (some _)) rfl) ?_
  refine lw_val rfl (run_move (v := .int .i64 _) rfl) ?_
  refine lw_val rfl (run_nilCheckP rfl) ?_
  refine lw_val rfl (run_fieldAddr (o' := 1) Tryz.underlying243 rfl sz3 rfl rfl rfl) ?_
  refine lw_store (v := .int .i64 _) hs 0 rfl sz3 rfl rfl rfl rfl ?_
  clear hs
  intro w hs
  try simp only [List.set_cons_succ, List.set_cons_zero] at hs
  refine lw_nil ?_
  refine cw_seq ?_
  refine cw_region ?_
  refine lw_val rfl (run_move (v := .pointer (some _)) rfl) ?_
  refine lw_val rfl (run_move (v := errV ad _) rfl) ?_
  refine lw_val rfl (run_nilCheckP rfl) ?_
  refine lw_val rfl (run_fieldAddr (o' := 2) Tryz.underlying243 rfl sz30 rfl rfl rfl) ?_
  refine lw_store (v := errV ad k) hs 0 rfl sz30 rfl rfl rfl (errV_one ad k) ?_
  clear hs
  intro w hs
  simp only [List.set_cons_succ, List.set_cons_zero] at hs
  refine lw_nil ?_
  refine cw_seq ?_
  refine cw_region ?_
  refine lw_val rfl (run_move (v := errV ad _) rfl) ?_
  refine lw_val rfl (run_load Tryz.underlying30 rfl rfl (hE.cellW hs 101 (by decide) rfl)) ?_
  refine lw_val rfl (run_neerr (hE.atW hs) (.inr hk) (by decide) rfl rfl) ?_
  refine lw_nil ?_
  refine cw_if rfl ?_ ?_
  · intro h16
    have g16 := ne_t h16
    refine cw_region ?_
    refine lw_val rfl (run_move (v := .pointer (some _)) rfl) ?_
    refine lw_val rfl (run_move (v := .int .i64 _) rfl) ?_
    refine lw_val rfl (run_move (v := errV ad _) rfl) ?_
    refine lw_val rfl (run_buildF [.int .i64 at_, errV ad k] Tryz.underlying187 ze187 pl187 rfl (at_one _ _) rfl rfl) ?_
    refine lw_box (v := .agg _) hs rfl rfl ?_
    clear hs
    intro b21 w hs
    refine lw_val rfl (run_mkI Tryz.underlying185 rfl) ?_
    refine lw_val rfl (run_nilCheckP rfl) ?_
    refine lw_val rfl (run_fieldAddr (o' := 2) Tryz.underlying243 rfl sz30 rfl rfl rfl) ?_
    refine lw_store (v := .iface _ (.pointer (some _))) hs 1 rfl sz30 rfl rfl rfl rfl ?_
    clear hs
    intro w hs
    try simp only [List.set_cons_succ, List.set_cons_zero] at hs
    refine lw_nil ?_
    refine res0  rfl ?_
    have hne : k ≠ 101 := by simpa using h16
    refine ⟨_, rfl, rfl, Mem.closeR (st := (at_, k)) (a := a) (c := c) (eb := b21) hl ?_⟩
    rw [eV_at hk0 hne, errC_at (by omega)]
    exact hs.arr [1, 2, 0] 4 (by decide)
  · intro h16
    have g16 := ne_f h16
    refine cw_skip ?_
    refine res0  rfl ?_
    have he : k = 101 := by simpa using h16
    subst he
    refine ⟨_, rfl, rfl, Mem.closeR (st := (at_, 101)) (a := a) (c := c) (eb := eb) hl ?_⟩
    rw [eV_101, errC_bare (.inr rfl)]
    exact hs
/-! ### Num, Int -/
theorem vgetF_q : ∀ {f i n : Nat} {b : List UInt8} {m q : Nat}, vgetF f i n b = (0, m, q) → q ≤ b.length
  | 0, _, _, _, _, _, h => by cases h
  | f + 1, i, n, b, m, q, h => by
    cases hb : b[i]? with
    | none => rw [vgetF_none hb] at h; cases h
    | some c =>
      have hlt := (List.getElem?_eq_some_iff.1 hb).1
      rw [vgetF_some hb] at h
      split at h
      · cases h
      · split at h
        · exact vgetF_q h
        · split at h
          · cases h
          · cases h; omega
theorem vgetF_code : ∀ {f i n : Nat} {b : List UInt8} {k m q : Nat}, vgetF f i n b = (k, m, q) → k = 0 ∨ k = 101 ∨ k = 103
  | 0, _, _, _, _, _, _, h => by cases h; simp
  | f + 1, i, n, b, k, m, q, h => by
    cases hb : b[i]? with
    | none => rw [vgetF_none hb] at h; cases h; simp
    | some c =>
      rw [vgetF_some hb] at h
      split at h
      · cases h; simp
      · split at h
        · exact vgetF_code h
        · split at h
          · cases h; simp
          · cases h; simp
def vnum (most : Nat) (b : List UInt8) (st : Nat × Nat) : Nat × Nat × Nat :=
  if st.2 ≠ 0 then (0, st) else if (vget (b.drop st.1)).1 ≠ 0 then (0, st.1, (vget (b.drop st.1)).1) else if most < (vget (b.drop st.1)).2.1 then (0, st.1, 105) else ((vget (b.drop st.1)).2.1, st.1 + (vget (b.drop st.1)).2.2, 0)
def vintS (b : List UInt8) (st : Nat × Nat) : Int × Nat × Nat :=
  if st.2 ≠ 0 then (0, st) else if (vgetI (b.drop st.1)).1 ≠ 0 then (0, st.1, (vgetI (b.drop st.1)).1) else ((vgetI (b.drop st.1)).2.1, st.1 + (vgetI (b.drop st.1)).2.2, 0)
theorem num_sl (hE : ErrW ad g) {rb : Nat} {b : List UInt8} {st : Nat × Nat} (hs : Mem g w (RdrC rb ad b st :: L)) (hlen : b.length ≤ 1073741824) {most n : Nat} {st2 : Nat × Nat} (hk : vnum most b st = (n, st2)) :
    Calls Tryz.prog 117 #[.pointer (some ⟨rb, 0, none⟩), .int .u64 most] w (Ret fun v w' => v = .int .u64 n ∧ Mem g w' (RdrC rb ad b st2 :: L)) := by
  obtain ⟨at_, code⟩ := st
  by_cases hc0 : code = 0
  · subst hc0
    obtain ⟨k, x, q, hv⟩ : ∃ k x q, vget (b.drop at_) = (k, x, q) := ⟨_, _, _, rfl⟩
    have hcode := vgetF_code hv
    obtain ⟨hl, a, c, eb, hc, hs⟩ := hs.openR
    simp only at hl
    simp only [vnum, hv] at hk
    rw [if_neg (by decide)] at hk
    simp only [eV_0] at hs
    refine calls_cw Tryz.func117 rfl rfl ?_
    skip
    refine cw_seq ?_
    refine cw_region ?_
    refine lw_val rfl (run_assign (v := .int .u64 _) rfl) ?_
    refine lw_nil ?_
    refine cw_seq ?_
    refine cw_seq ?_
    refine cw_region ?_
    refine lw_val rfl (run_move (v := .pointer (some _)) rfl) ?_
    refine lw_val rfl (run_nilCheckP rfl) ?_
    refine lw_val rfl (run_fieldAddr (o' := 2) Tryz.underlying243 rfl sz30 rfl rfl rfl) ?_
    refine lw_val rfl (run_load Tryz.underlying30 rfl rfl (hs.cellAt 0 rfl rfl)) ?_
    refine lw_val rfl (run_nenn rfl) ?_
    refine lw_nil ?_
    refine cw_iff rfl (rfl) ?_
    refine cw_skip ?_
    refine cw_seq ?_
    refine cw_drawS mixes hs ?_
    intro w tr hK
    replace hs := tr _ hs
    clear tr
    refine aw_take 0 rfl (by kernel_rfl) (by kernel_rfl) (by kernel_rfl) rfl (fun w hs => run_move (v := .pointer (some _)) rfl) hK ?_
    refine aw_take 1 rfl (by kernel_rfl) (by kernel_rfl) (by kernel_rfl) rfl (fun w hs => run_nilCheckP rfl) hK ?_
    refine aw_take 2 rfl (by kernel_rfl) (by kernel_rfl) (by kernel_rfl) rfl (fun w hs => run_fieldAddr (o' := 0) Tryz.underlying243 rfl sz64 rfl rfl rfl) hK ?_
    refine aw_take 3 rfl (by kernel_rfl) (by kernel_rfl) (by kernel_rfl) rfl (fun w hs => run_load Tryz.underlying64 rfl rfl (hs.cellAt 0 rfl rfl)) hK ?_
    refine aw_take 4 rfl (by kernel_rfl) (by kernel_rfl) (by kernel_rfl) rfl (fun w hs => run_move (v := .pointer (some _)) rfl) hK ?_
    refine aw_take 5 rfl (by kernel_rfl) (by kernel_rfl) (by kernel_rfl) rfl (fun w hs => run_nilCheckP rfl) hK ?_
    refine aw_take 6 rfl (by kernel_rfl) (by kernel_rfl) (by kernel_rfl) rfl (fun w hs => run_fieldAddr (o' := 1) Tryz.underlying243 rfl sz3 rfl rfl rfl) hK ?_
    refine aw_take 7 rfl (by kernel_rfl) (by kernel_rfl) (by kernel_rfl) rfl (fun w hs => run_load Tryz.underlying3 rfl rfl (hs.cellAt 0 rfl rfl)) hK ?_
    refine aw_take 8 rfl (by kernel_rfl) (by kernel_rfl) (by kernel_rfl) rfl (fun w hs => run_sliceFrom Tryz.underlying64 sz5 rfl rfl (lo := at_) rfl (by omega)) hK ?_
    refine aw_ready [9] (by kernel_rfl) (by simp) ?_
    refine ⟨⟨_, rfl, ?_⟩, trivial⟩
    refine lw_call rfl en200 (vget_sl hE hs (k := k) (n := x) (q := q) (b := (b.take b.length).drop at_) ((hs.rdOwn 1 rfl).subB hl (Nat.le_refl _)) (by simp) (by simp; omega) (by rw [List.take_length]; exact hv)) ?_
    clear hs
    rintro _ w ⟨rfl, hs⟩
    clear hK
    have hK := hs
    refine lw_nil ⟨hK, ?_⟩
    refine aw_take 10 rfl (by kernel_rfl) (by kernel_rfl) (by kernel_rfl) rfl (fun w hs => run_move (v := .tuple _) rfl) hK ?_
    refine aw_take 11 rfl (by kernel_rfl) (by kernel_rfl) (by kernel_rfl) rfl (fun w hs => run_extract (v := .int .u64 _) rfl rfl) hK ?_
    refine aw_take 12 rfl (by kernel_rfl) (by kernel_rfl) (by kernel_rfl) rfl (fun w hs => run_extract (v := .int .i64 _) rfl rfl) hK ?_
    refine aw_take 13 rfl (by kernel_rfl) (by kernel_rfl) (by kernel_rfl) rfl (fun w hs => run_extract (v := errV ad _) rfl rfl) hK ?_
    refine aw_take 14 rfl (by kernel_rfl) (by kernel_rfl) (by kernel_rfl) rfl (fun w hs => run_assign (v := .int .u64 _) rfl) hK ?_
    refine aw_take 15 rfl (by kernel_rfl) (by kernel_rfl) (by kernel_rfl) rfl (fun w hs => run_assign (v := .int .i64 _) rfl) hK ?_
    refine aw_take 16 rfl (by kernel_rfl) (by kernel_rfl) (by kernel_rfl) rfl (fun w hs => run_assign (v := errV ad _) rfl) hK ?_
    refine aw_done (by kernel_rfl) ?_
    clear hK
    refine cw_seq ?_
    refine cw_seq ?_
    refine cw_region ?_
    refine lw_val rfl (run_move (v := errV ad _) rfl) ?_
    refine lw_val rfl (run_eqerrn (ad := ad) rfl) ?_
    refine lw_val rfl (run_move (v := .bool _) rfl) ?_
    refine lw_split (t := _) (d := 29) rfl ?_ ?_
    · intro h28
      have g28 := of_decide_eq_true h28
      have hz := of_decide_eq_true h28
      subst hz
      rw [if_neg (by decide)] at hk
      refine lw_on rfl rfl h28 ?_
      refine lw_val rfl (run_move (v := .int .u64 _) rfl) ?_
      refine lw_on rfl rfl h28 ?_
      refine lw_val rfl (run_move (v := .int .u64 _) rfl) ?_
      refine lw_on rfl rfl h28 ?_
      refine lw_val rfl (run_gtr rfl rfl) ?_
      refine lw_val rfl (run_pickT (v := .bool _) rfl h28 rfl) ?_
      refine lw_nil ?_
      refine cw_if rfl ?_ ?_
      · intro h32
        have g32 := of_decide_eq_true h32
        rw [if_pos (by omega)] at hk
        cases hk
        refine cw_region ?_
        refine lw_val rfl (run_load Tryz.underlying30 rfl rfl (hE.cellW hs 105 (by decide) rfl)) ?_
        refine lw_val rfl (run_assign (v := errV ad _) rfl) ?_
        refine lw_nil ?_
        refine cw_seq ?_
        refine cw_seq ?_
        refine cw_region ?_
        refine lw_val rfl (run_move (v := errV ad _) rfl) ?_
        refine lw_val rfl (run_neerrn (ad := ad) rfl) ?_
        refine lw_nil ?_
        refine cw_ift rfl (rfl) ?_
        refine cw_seq ?_
        refine cw_region ?_
        refine lw_val rfl (run_move (v := .pointer (some _)) rfl) ?_
        refine lw_val rfl (run_move (v := .pointer (some _)) rfl) ?_
        refine lw_val rfl (run_nilCheckP rfl) ?_
        refine lw_val rfl (run_fieldAddr (o' := 1) Tryz.underlying243 rfl sz3 rfl rfl rfl) ?_
        refine lw_val rfl (run_load Tryz.underlying3 rfl rfl (hs.cellAt 0 rfl rfl)) ?_
        refine lw_val rfl (run_move (v := errV ad _) rfl) ?_
        refine lw_call rfl en201 (bad_sl hE (k := 105) (by decide) (Mem.closeR0 hl hs)) ?_
        clear hs
        rintro _ w ⟨rfl, hs⟩
        refine lw_nil ?_
        refine cw_seq ?_
        refine cw_region ?_
        refine lw_val rfl (run_assign (v := .int .u64 _) rfl) ?_
        refine lw_nil ?_
        refine cw_ret ?_
        refine res1 (v := .int .u64 _) rfl rfl ?_
        exact ⟨_, rfl, rfl, hs⟩
      · intro h32
        have g32 := of_decide_eq_false h32
        rw [if_neg (by omega)] at hk
        cases hk
        refine cw_skip ?_
        refine cw_seq ?_
        refine cw_seq ?_
        refine cw_region ?_
        refine lw_val rfl (run_move (v := errV ad _) rfl) ?_
        refine lw_val rfl (run_neerrn (ad := ad) rfl) ?_
        refine lw_nil ?_
        refine cw_iff rfl (rfl) ?_
        refine cw_skip ?_
        refine cw_seq ?_
        have hq := vgetF_q hv
        rw [List.length_drop] at hq
        refine cw_region ?_
        refine lw_val rfl (run_move (v := .pointer (some _)) rfl) ?_
        refine lw_val rfl (run_nilCheckP rfl) ?_
        refine lw_val rfl (run_fieldAddr (o' := 1) Tryz.underlying243 rfl sz3 rfl rfl rfl) ?_
        refine lw_val rfl (run_load Tryz.underlying3 rfl rfl (hs.cellAt 0 rfl rfl)) ?_
        refine lw_val rfl (run_move (v := .int .i64 _) rfl) ?_
        refine lw_val rfl (run_add64 rfl rfl (c := ((at_ + q : Nat) : Int)) (by omega) (inI (by omega) (by omega))) ?_
        refine lw_val rfl (run_nilCheckP rfl) ?_
        refine lw_val rfl (run_fieldAddr (o' := 1) Tryz.underlying243 rfl sz3 rfl rfl rfl) ?_
        refine lw_store (v := .int .i64 _) hs 0 rfl sz3 rfl rfl rfl rfl ?_
        clear hs
        intro w hs
        try simp only [List.set_cons_succ, List.set_cons_zero] at hs
        refine lw_nil ?_
        refine cw_seq ?_
        refine cw_region ?_
        refine lw_val rfl (run_move (v := .int .u64 _) rfl) ?_
        refine lw_val rfl (run_assign (v := .int .u64 _) rfl) ?_
        refine lw_nil ?_
        refine cw_ret ?_
        refine res1 (v := .int .u64 _) rfl rfl ?_
        exact ⟨_, rfl, rfl, Mem.closeR0 (by omega) hs⟩
    · intro h28
      have g28 := of_decide_eq_false h28
      have hz := of_decide_eq_false h28
      rw [if_pos hz] at hk
      cases hk
      refine lw_off rfl rfl rfl h28 ?_
      refine lw_off rfl rfl rfl h28 ?_
      refine lw_off rfl rfl rfl h28 ?_
      refine lw_val rfl (run_pickF (v := .bool _) rfl h28 rfl) ?_
      refine lw_nil ?_
      refine cw_iff rfl rfl ?_
      refine cw_skip ?_
      refine cw_seq ?_
      refine cw_seq ?_
      refine cw_region ?_
      refine lw_val rfl (run_move (v := errV ad _) rfl) ?_
      refine lw_val rfl (run_neerrn (ad := ad) rfl) ?_
      refine lw_nil ?_
      refine cw_ift rfl (by rw [decide_eq_false hz]; rfl) ?_
      refine cw_seq ?_
      refine cw_region ?_
      refine lw_val rfl (run_move (v := .pointer (some _)) rfl) ?_
      refine lw_val rfl (run_move (v := .pointer (some _)) rfl) ?_
      refine lw_val rfl (run_nilCheckP rfl) ?_
      refine lw_val rfl (run_fieldAddr (o' := 1) Tryz.underlying243 rfl sz3 rfl rfl rfl) ?_
      refine lw_val rfl (run_load Tryz.underlying3 rfl rfl (hs.cellAt 0 rfl rfl)) ?_
      refine lw_val rfl (run_move (v := errV ad _) rfl) ?_
      refine lw_call rfl en201 (bad_sl hE (k := k) (by rcases hcode with h | h | h; exact absurd h hz; rw [h]; decide; rw [h]; decide) (Mem.closeR0 hl hs)) ?_
      clear hs
      rintro _ w ⟨rfl, hs⟩
      refine lw_nil ?_
      refine cw_seq ?_
      refine cw_region ?_
      refine lw_val rfl (run_assign (v := .int .u64 _) rfl) ?_
      refine lw_nil ?_
      refine cw_ret ?_
      refine res1 (v := .int .u64 _) rfl rfl ?_
      exact ⟨_, rfl, rfl, hs⟩
  · obtain ⟨hl, a, c, eb, hc, hs⟩ := hs.openR
    simp only [vnum] at hk
    rw [if_pos hc0] at hk
    cases hk
    refine calls_cw Tryz.func117 rfl rfl ?_
    skip
    refine cw_seq ?_
    refine cw_region ?_
    refine lw_val rfl (run_assign (v := .int .u64 _) rfl) ?_
    refine lw_nil ?_
    refine cw_seq ?_
    refine cw_seq ?_
    refine cw_region ?_
    refine lw_val rfl (run_move (v := .pointer (some _)) rfl) ?_
    refine lw_val rfl (run_nilCheckP rfl) ?_
    refine lw_val rfl (run_fieldAddr (o' := 2) Tryz.underlying243 rfl sz30 rfl rfl rfl) ?_
    refine lw_val rfl (run_load Tryz.underlying30 rfl rfl (hs.cellAt 0 rfl rfl)) ?_
    refine lw_val rfl (run_neE (ad := ad) rfl) ?_
    refine lw_nil ?_
    refine cw_ift rfl (by rw [decide_eq_false hc0]; rfl) ?_
    refine cw_seq ?_
    refine cw_region ?_
    refine lw_val rfl (run_assign (v := .int .u64 _) rfl) ?_
    refine lw_nil ?_
    refine cw_ret ?_
    refine res1 (v := .int .u64 _) rfl rfl ?_
    exact ⟨_, rfl, rfl, Mem.closeR hl hs⟩
theorem int_sl (hE : ErrW ad g) {rb : Nat} {b : List UInt8} {st : Nat × Nat} (hs : Mem g w (RdrC rb ad b st :: L)) (hlen : b.length ≤ 1073741824) {z : Int} {st2 : Nat × Nat} (hk : vintS b st = (z, st2)) :
    Calls Tryz.prog 202 #[.pointer (some ⟨rb, 0, none⟩), .int .i64 (-9223372036854775808), .int .i64 9223372036854775807] w (Ret fun v w' => v = .int .i64 z ∧ InI64 z ∧ Mem g w' (RdrC rb ad b st2 :: L)) := by
  obtain ⟨at_, code⟩ := st
  by_cases hc0 : code = 0
  · subst hc0
    obtain ⟨k, x, q, hv⟩ : ∃ k x q, vget (b.drop at_) = (k, x, q) := ⟨_, _, _, rfl⟩
    have hcode := vgetF_code hv
    have hxl := vget_lt hv
    have hvI : vgetI (b.drop at_) = (k, zag x, q) := by simp [vgetI, hv]
    have hzl : InI64 (zag x) := by unfold zag; split <;> exact ⟨by omega, by omega⟩
    obtain ⟨hz1, hz2⟩ := id hzl
    obtain ⟨hl, a, c, eb, hc, hs⟩ := hs.openR
    simp only at hl
    simp only [vintS, hvI] at hk
    rw [if_neg (by decide)] at hk
    simp only [eV_0] at hs
    refine calls_cw Tryz.func202 rfl rfl ?_
    skip
    refine cw_seq ?_
    refine cw_region ?_
    refine lw_val rfl (run_assign (v := .int .i64 _) rfl) ?_
    refine lw_nil ?_
    refine cw_seq ?_
    refine cw_seq ?_
    refine cw_region ?_
    refine lw_val rfl (run_move (v := .pointer (some _)) rfl) ?_
    refine lw_val rfl (run_nilCheckP rfl) ?_
    refine lw_val rfl (run_fieldAddr (o' := 2) Tryz.underlying243 rfl sz30 rfl rfl rfl) ?_
    refine lw_val rfl (run_load Tryz.underlying30 rfl rfl (hs.cellAt 0 rfl rfl)) ?_
    refine lw_val rfl (run_nenn rfl) ?_
    refine lw_nil ?_
    refine cw_iff rfl (rfl) ?_
    refine cw_skip ?_
    refine cw_seq ?_
    refine cw_drawS mixes hs ?_
    intro w tr hK
    replace hs := tr _ hs
    clear tr
    refine aw_take 0 rfl (by kernel_rfl) (by kernel_rfl) (by kernel_rfl) rfl (fun w hs => run_move (v := .pointer (some _)) rfl) hK ?_
    refine aw_take 1 rfl (by kernel_rfl) (by kernel_rfl) (by kernel_rfl) rfl (fun w hs => run_nilCheckP rfl) hK ?_
    refine aw_take 2 rfl (by kernel_rfl) (by kernel_rfl) (by kernel_rfl) rfl (fun w hs => run_fieldAddr (o' := 0) Tryz.underlying243 rfl sz64 rfl rfl rfl) hK ?_
    refine aw_take 3 rfl (by kernel_rfl) (by kernel_rfl) (by kernel_rfl) rfl (fun w hs => run_load Tryz.underlying64 rfl rfl (hs.cellAt 0 rfl rfl)) hK ?_
    refine aw_take 4 rfl (by kernel_rfl) (by kernel_rfl) (by kernel_rfl) rfl (fun w hs => run_move (v := .pointer (some _)) rfl) hK ?_
    refine aw_take 5 rfl (by kernel_rfl) (by kernel_rfl) (by kernel_rfl) rfl (fun w hs => run_nilCheckP rfl) hK ?_
    refine aw_take 6 rfl (by kernel_rfl) (by kernel_rfl) (by kernel_rfl) rfl (fun w hs => run_fieldAddr (o' := 1) Tryz.underlying243 rfl sz3 rfl rfl rfl) hK ?_
    refine aw_take 7 rfl (by kernel_rfl) (by kernel_rfl) (by kernel_rfl) rfl (fun w hs => run_load Tryz.underlying3 rfl rfl (hs.cellAt 0 rfl rfl)) hK ?_
    refine aw_take 8 rfl (by kernel_rfl) (by kernel_rfl) (by kernel_rfl) rfl (fun w hs => run_sliceFrom Tryz.underlying64 sz5 rfl rfl (lo := at_) rfl (by omega)) hK ?_
    refine aw_ready [9] (by kernel_rfl) (by simp) ?_
    refine ⟨⟨_, rfl, ?_⟩, trivial⟩
    refine lw_call rfl en238 (vgetI_sl hE hs (k := k) (z := zag x) (q := q) (b := (b.take b.length).drop at_) ((hs.rdOwn 1 rfl).subB hl (Nat.le_refl _)) (by simp) (by simp; omega) (by rw [List.take_length]; exact hvI)) ?_
    clear hs
    rintro _ w ⟨rfl, hs⟩
    clear hK
    have hK := hs
    refine lw_nil ⟨hK, ?_⟩
    refine aw_take 10 rfl (by kernel_rfl) (by kernel_rfl) (by kernel_rfl) rfl (fun w hs => run_move (v := .tuple _) rfl) hK ?_
    refine aw_take 11 rfl (by kernel_rfl) (by kernel_rfl) (by kernel_rfl) rfl (fun w hs => run_extract (v := .int .i64 _) rfl rfl) hK ?_
    refine aw_take 12 rfl (by kernel_rfl) (by kernel_rfl) (by kernel_rfl) rfl (fun w hs => run_extract (v := .int .i64 _) rfl rfl) hK ?_
    refine aw_take 13 rfl (by kernel_rfl) (by kernel_rfl) (by kernel_rfl) rfl (fun w hs => run_extract (v := errV ad _) rfl rfl) hK ?_
    refine aw_take 14 rfl (by kernel_rfl) (by kernel_rfl) (by kernel_rfl) rfl (fun w hs => run_assign (v := .int .i64 _) rfl) hK ?_
    refine aw_take 15 rfl (by kernel_rfl) (by kernel_rfl) (by kernel_rfl) rfl (fun w hs => run_assign (v := .int .i64 _) rfl) hK ?_
    refine aw_take 16 rfl (by kernel_rfl) (by kernel_rfl) (by kernel_rfl) rfl (fun w hs => run_assign (v := errV ad _) rfl) hK ?_
    refine aw_done (by kernel_rfl) ?_
    clear hK
    refine cw_seq ?_
    refine cw_seq ?_
    refine cw_region ?_
    refine lw_val rfl (run_move (v := errV ad _) rfl) ?_
    refine lw_val rfl (run_eqerrn (ad := ad) rfl) ?_
    refine lw_val rfl (run_move (v := .bool _) rfl) ?_
    refine lw_split (t := _) (d := 31) rfl ?_ ?_
    · intro h30
      have g30 := of_decide_eq_true h30
      have hz := of_decide_eq_true h30
      subst hz
      rw [if_neg (by decide)] at hk
      cases hk
      refine lw_on rfl rfl h30 ?_
      refine lw_val rfl (run_move (v := .int .i64 _) rfl) ?_
      refine lw_on rfl rfl h30 ?_
      refine lw_val rfl (run_move (v := .int .i64 _) rfl) ?_
      refine lw_on rfl rfl h30 ?_
      refine lw_val rfl (run_lss rfl rfl) ?_
      refine lw_on rfl rfl h30 ?_
      refine lw_val rfl (run_move (v := .bool _) rfl) ?_
      refine lw_on rfl rfl (decide_eq_false (by omega)) ?_
      refine lw_val rfl (run_move (v := .int .i64 _) rfl) ?_
      refine lw_on rfl rfl (decide_eq_false (by omega)) ?_
      refine lw_val rfl (run_move (v := .int .i64 _) rfl) ?_
      refine lw_on rfl rfl (decide_eq_false (by omega)) ?_
      refine lw_val rfl (run_gtr rfl rfl) ?_
      refine lw_on rfl rfl h30 ?_
      refine lw_val rfl (run_pickF (v := .bool _) rfl (decide_eq_false (by omega)) rfl) ?_
      refine lw_val rfl (run_pickT (v := .bool _) rfl h30 rfl) ?_
      refine lw_nil ?_
      refine cw_iff rfl (decide_eq_false (by omega)) ?_
      refine cw_skip ?_
      refine cw_seq ?_
      refine cw_seq ?_
      refine cw_region ?_
      refine lw_val rfl (run_move (v := errV ad _) rfl) ?_
      refine lw_val rfl (run_neerrn (ad := ad) rfl) ?_
      refine lw_nil ?_
      refine cw_iff rfl (rfl) ?_
      refine cw_skip ?_
      refine cw_seq ?_
      have hq := vgetF_q hv
      rw [List.length_drop] at hq
      refine cw_region ?_
      refine lw_val rfl (run_move (v := .pointer (some _)) rfl) ?_
      refine lw_val rfl (run_nilCheckP rfl) ?_
      refine lw_val rfl (run_fieldAddr (o' := 1) Tryz.underlying243 rfl sz3 rfl rfl rfl) ?_
      refine lw_val rfl (run_load Tryz.underlying3 rfl rfl (hs.cellAt 0 rfl rfl)) ?_
      refine lw_val rfl (run_move (v := .int .i64 _) rfl) ?_
      refine lw_val rfl (run_add64 rfl rfl (c := ((at_ + q : Nat) : Int)) (by omega) (inI (by omega) (by omega))) ?_
      refine lw_val rfl (run_nilCheckP rfl) ?_
      refine lw_val rfl (run_fieldAddr (o' := 1) Tryz.underlying243 rfl sz3 rfl rfl rfl) ?_
      refine lw_store (v := .int .i64 _) hs 0 rfl sz3 rfl rfl rfl rfl ?_
      clear hs
      intro w hs
      try simp only [List.set_cons_succ, List.set_cons_zero] at hs
      refine lw_nil ?_
      refine cw_seq ?_
      refine cw_region ?_
      refine lw_val rfl (run_move (v := .int .i64 _) rfl) ?_
      refine lw_val rfl (run_assign (v := .int .i64 _) rfl) ?_
      refine lw_nil ?_
      refine cw_ret ?_
      refine res1 (v := .int .i64 _) rfl rfl ?_
      exact ⟨_, rfl, rfl, hzl, Mem.closeR0 (by omega) hs⟩
    · intro h30
      have g30 := of_decide_eq_false h30
      have hz := of_decide_eq_false h30
      rw [if_pos hz] at hk
      cases hk
      refine lw_off rfl rfl rfl h30 ?_
      refine lw_off rfl rfl rfl h30 ?_
      refine lw_off rfl rfl rfl h30 ?_
      refine lw_off rfl rfl rfl h30 ?_
      refine lw_offU rfl rfl rfl ?_
      refine lw_offU rfl rfl rfl ?_
      refine lw_offU rfl rfl rfl ?_
      refine lw_off rfl rfl rfl h30 ?_
      refine lw_val rfl (run_pickF (v := .bool _) rfl h30 rfl) ?_
      refine lw_nil ?_
      refine cw_iff rfl rfl ?_
      refine cw_skip ?_
      refine cw_seq ?_
      refine cw_seq ?_
      refine cw_region ?_
      refine lw_val rfl (run_move (v := errV ad _) rfl) ?_
      refine lw_val rfl (run_neerrn (ad := ad) rfl) ?_
      refine lw_nil ?_
      refine cw_ift rfl (by rw [decide_eq_false hz]; rfl) ?_
      refine cw_seq ?_
      refine cw_region ?_
      refine lw_val rfl (run_move (v := .pointer (some _)) rfl) ?_
      refine lw_val rfl (run_move (v := .pointer (some _)) rfl) ?_
      refine lw_val rfl (run_nilCheckP rfl) ?_
      refine lw_val rfl (run_fieldAddr (o' := 1) Tryz.underlying243 rfl sz3 rfl rfl rfl) ?_
      refine lw_val rfl (run_load Tryz.underlying3 rfl rfl (hs.cellAt 0 rfl rfl)) ?_
      refine lw_val rfl (run_move (v := errV ad _) rfl) ?_
      refine lw_call rfl en201 (bad_sl hE (k := k) (by rcases hcode with h | h | h; exact absurd h hz; rw [h]; decide; rw [h]; decide) (Mem.closeR0 hl hs)) ?_
      clear hs
      rintro _ w ⟨rfl, hs⟩
      refine lw_nil ?_
      refine cw_seq ?_
      refine cw_region ?_
      refine lw_val rfl (run_assign (v := .int .i64 _) rfl) ?_
      refine lw_nil ?_
      refine cw_ret ?_
      refine res1 (v := .int .i64 _) rfl rfl ?_
      exact ⟨_, rfl, rfl, ⟨by decide, by decide⟩, hs⟩
  · obtain ⟨hl, a, c, eb, hc, hs⟩ := hs.openR
    simp only [vintS] at hk
    rw [if_pos hc0] at hk
    cases hk
    refine calls_cw Tryz.func202 rfl rfl ?_
    skip
    refine cw_seq ?_
    refine cw_region ?_
    refine lw_val rfl (run_assign (v := .int .i64 _) rfl) ?_
    refine lw_nil ?_
    refine cw_seq ?_
    refine cw_seq ?_
    refine cw_region ?_
    refine lw_val rfl (run_move (v := .pointer (some _)) rfl) ?_
    refine lw_val rfl (run_nilCheckP rfl) ?_
    refine lw_val rfl (run_fieldAddr (o' := 2) Tryz.underlying243 rfl sz30 rfl rfl rfl) ?_
    refine lw_val rfl (run_load Tryz.underlying30 rfl rfl (hs.cellAt 0 rfl rfl)) ?_
    refine lw_val rfl (run_neE (ad := ad) rfl) ?_
    refine lw_nil ?_
    refine cw_ift rfl (by rw [decide_eq_false hc0]; rfl) ?_
    refine cw_seq ?_
    refine cw_region ?_
    refine lw_val rfl (run_assign (v := .int .i64 _) rfl) ?_
    refine lw_nil ?_
    refine cw_ret ?_
    refine res1 (v := .int .i64 _) rfl rfl ?_
    exact ⟨_, rfl, rfl, ⟨by decide, by decide⟩, Mem.closeR hl hs⟩
end Go.Proofs.YtkogkokmcmallaaGreatDoor
