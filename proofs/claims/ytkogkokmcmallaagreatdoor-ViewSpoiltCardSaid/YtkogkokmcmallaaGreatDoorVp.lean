/- vint.Put, over chunks. -/
import Derived.Test.YtkogkokmcmallaaGreatDoorG
import Derived.Test.YtkogkokmcmallaaGreatDoorZb
namespace Go.Proofs.YtkogkokmcmallaaGreatDoor
set_option linter.all false
open Go.RowKit
attribute [local irreducible] errV
variable {g w : World} {L M : List HP} {ad : Nat → Addr}

theorem wrapB (s : Nat) : IntKind.u8.wrap (s : Int) = (((UInt8.ofNat s).toNat : Nat) : Int) := by
  have h8 : (2 : Int) ^ 8 = 256 := by decide
  simp only [IntKind.wrap, IntKind.bits, IntKind.signed, h8, Bool.false_and, Bool.false_eq_true, if_false]
  rw [UInt8.toNat_ofNat']
  omega
/-! ### numbers as bytes -/
def vputF : Nat → Nat → List UInt8
  | 0, _ => []
  | f + 1, n => if n < 128 then [UInt8.ofNat n] else UInt8.ofNat (n % 128 + 128) :: vputF f (n / 128)
def vputL (n : Nat) : List UInt8 := vputF 10 n
theorem vputF_len : ∀ f n, (vputF f n).length ≤ f
  | 0, _ => Nat.le_refl _
  | f + 1, n => by
    unfold vputF
    split
    · simp
    · simp [vputF_len f (n / 128)]
theorem low7 {m : Int} (h0 : 0 ≤ m) (h : m < 256) : bits .or .u8 m 128 = m % 128 + 128 := by
  have : ∀ m : Nat, m < 256 → bits .or .u8 (m : Int) 128 = (m : Int) % 128 + 128 := by decide +kernel
  have h1 := this m.toNat (by omega)
  rwa [Int.toNat_of_nonneg h0] at h1
theorem low7n (n : Nat) : bits .or .u8 (((UInt8.ofNat n).toNat : Nat) : Int) 128 = (((UInt8.ofNat (n % 128 + 128)).toNat : Nat) : Int) := by
  have h1 := (UInt8.ofNat n).toNat_lt
  rw [low7 (by omega) (by omega), UInt8.toNat_ofNat', UInt8.toNat_ofNat']
  omega
theorem vput_sl (hs : Mem g w L) {a : Option Addr} {m c : Nat} {lb : List UInt8} {n : Nat} (hr : Rd g L (.slice a m c) (bytesL lb)) (hm : m = lb.length) (hlen : lb.length ≤ 1000000) (hn : n < 18446744073709551616) : Calls Tryz.prog 111 #[.slice a m c, .int .u64 n] w (Ret fun v w' => ∃ a' c', v = .slice a' (lb ++ vputL n).length c' ∧ Mem g w' (own (.slice a' (lb ++ vputL n).length c') (bytesL (lb ++ vputL n)) :: L)) := by
  subst hm
  refine calls_cw Tryz.func111 rfl rfl ?_
  skip
  refine cw_seq ?_
  refine cw_region ?_
  first | refine lw_val rfl (run_assign (v := .slice _ _ _) rfl) ?_
  refine lw_nil ?_
  refine cw_seq ?_
  refine cw_region ?_
  first | refine lw_val rfl (run_move (v := .slice _ _ _) rfl) ?_
  refine lw_call rfl en94 (clone_sl hs (l := lb) hr (by omega)) ?_
  clear hs
  rintro _ w ⟨a7, c7, rfl, hs⟩
  rw [bytesL_len] at hs ⊢
  first | refine lw_val rfl (run_assign (v := .slice _ _ _) rfl) ?_
  refine lw_nil ?_
  refine cw_seq ?_
  refine cw_block ?_
  refine cw_loop (X := Nat × Nat × List UInt8 × Option Addr × Nat) [1, 5, 8, 9, 10, 11, 12, 13, 14, 15, 16, 17] (fun x => [(5, .slice x.2.2.2.1 x.2.2.1.length x.2.2.2.2), (1, .int .u64 (x.2.1 : Nat))]) (fun x w => 1 ≤ x.1 ∧ x.2.1 < 2 ^ (7 * x.1) ∧ x.2.1 < 18446744073709551616 ∧ x.2.2.1 ++ vputF x.1 x.2.1 = lb ++ vputL n ∧ Mem g w (own (.slice x.2.2.2.1 x.2.2.1.length x.2.2.2.2) (bytesL x.2.2.1) :: L)) (fun x => x.1) ((10, n, lb, a7, c7)) ?_ ?_ ?_
  · exact ⟨rfl, rfl, trivial⟩
  · exact ⟨show 1 ≤ 10 by decide, by show n < 2 ^ 70; omega, hn, rfl, hs⟩
  clear hs
  rintro x ξ w hI
  obtain ⟨f, q, out, oa, oc⟩ := x
  obtain ⟨hf, hq, hq2, heq, hs⟩ := hI
  simp only at hf hq hq2 heq hs
  have hol : out.length ≤ 1000020 := by have h1 := congrArg List.length heq; have h2 := vputF_len 10 n; simp only [List.length_append, vputL] at h1; omega
  show cw _ _ _ _ _ _ (updL (mix _ ξ _) [(5, .slice oa out.length oc), (1, .int .u64 (q : Nat))]) w
  refine cw_seq ?_
  refine cw_seq ?_
  refine cw_region ?_
  first | refine lw_val rfl (run_move (v := .int .u64 _) rfl) ?_
  refine lw_val rfl (run_geq rfl rfl) ?_
  refine lw_nil ?_
  refine cw_if rfl ?_ ?_
  · intro h9
    have g9 := of_decide_eq_true h9
    obtain ⟨f, rfl⟩ : ∃ f', f = f' + 1 := ⟨f - 1, by omega⟩
    have h2 : 2 ^ (7 * (f + 1)) = 128 * 2 ^ (7 * f) := by rw [Nat.mul_add, Nat.pow_add]; omega
    have hq3 : q / 128 < 2 ^ (7 * f) := by rw [h2] at hq; exact Nat.div_lt_of_lt_mul hq
    have hf1 : 1 ≤ f := by rcases Nat.eq_zero_or_pos f with h | h; rw [h] at hq3; simp at hq3; omega; exact h
    have hst : vputF (f + 1) q = UInt8.ofNat (q % 128 + 128) :: vputF f (q / 128) := by conv => lhs; unfold vputF; rw [if_neg (by omega)]
    refine cw_skip ?_
    refine cw_seq ?_
    refine cw_block ?_
    refine cw_region ?_
    first | refine lw_val rfl (run_move (v := .slice _ _ _) rfl) ?_
    first | refine lw_val rfl (run_move (v := .int .u64 _) rfl) ?_
    refine lw_val rfl (run_convIn Tryz.underlying172 Tryz.underlying5 rfl (c := (((UInt8.ofNat q).toNat : Nat) : Int)) (wrapB q)) ?_
    refine lw_val rfl (run_bits (v := .int .u8 (((UInt8.ofNat (q % 128 + 128)).toNat : Nat) : Int)) (by simp) rfl rfl (by rw [← low7n q]; rfl)) ?_
    refine lw_buildSlice hs rfl ((bytesL [UInt8.ofNat (q % 128 + 128)])) Tryz.underlying64 zs5 rfl (cells_one (bytesL_one _)) rfl rfl rfl ?_
    clear hs
    intro b16 w hs
    try simp only [List.set_cons_succ, List.set_cons_zero] at hs
    refine lw_append hs rfl 1 rfl Tryz.underlying64 in5 rfl rfl rfl (src_of_seq (P := Tryz.prog) Tryz.underlying64 ((Rd.cells (n := 1) (cs := bytesL [UInt8.ofNat (q % 128 + 128)]) 0 rfl rfl).seq hs) (bytesL_one _)) (by simp only [bytesL_len, List.length_cons, List.length_nil]; omega) (by simp only [bytesL_len, List.length_cons, List.length_nil]; omega) ?_
    clear hs
    intro a17 c17 w hs
    simp only [List.set_cons_succ, List.set_cons_zero] at hs
    first | refine lw_val rfl (run_assign (v := .slice _ _ _) rfl) ?_
    refine lw_nil ?_
    refine cw_region ?_
    first | refine lw_val rfl (run_move (v := .int .u64 _) rfl) ?_
    refine lw_val rfl (run_shr rfl rfl (n := 7) (c := ((q / 128 : Nat) : Int)) rfl (by decide) (by omega)) ?_
    first | refine lw_val rfl (run_assign (v := .int .u64 _) rfl) ?_
    refine lw_nil ?_
    have e1 : bytesL out ++ bytesL [UInt8.ofNat (q % 128 + 128)] = bytesL (out ++ [UInt8.ofNat (q % 128 + 128)]) := (bytesL_app _ _).symm
    have e2 : (bytesL out).length + (bytesL [UInt8.ofNat (q % 128 + 128)]).length = (out ++ [UInt8.ofNat (q % 128 + 128)]).length := by simp [bytesL_len]
    rw [e1, e2] at hs
    exact ⟨(f, q / 128, out ++ [UInt8.ofNat (q % 128 + 128)], a17, c17), by simp only; omega, ⟨hf1, hq3, by show q / 128 < _; omega, by rw [← heq, hst]; simp, hs.tail⟩, ⟨show Value.slice a17 ((bytesL out).length + (bytesL [UInt8.ofNat (q % 128 + 128)]).length) c17 = Value.slice a17 (out ++ [UInt8.ofNat (q % 128 + 128)]).length c17 from by rw [e2], rfl, trivial⟩, by repeat (first | exact Out.mix _ _ _ | refine Out.updo rfl ?_ | refine Out.upd rfl ?_ | refine Out.mixIn rfl ?_)⟩
  · intro h9
    have g9 := of_decide_eq_false h9
    obtain ⟨f, rfl⟩ : ∃ f', f = f' + 1 := ⟨f - 1, by omega⟩
    have hst : vputF (f + 1) q = [UInt8.ofNat q] := by unfold vputF; rw [if_pos (by omega)]
    rw [hst] at heq
    refine cw_exit rfl ?_
    refine cw_seq ?_
    refine cw_region ?_
    first | refine lw_val rfl (run_move (v := .slice _ _ _) rfl) ?_
    first | refine lw_val rfl (run_move (v := .int .u64 _) rfl) ?_
    refine lw_val rfl (run_convIn Tryz.underlying172 Tryz.underlying5 rfl (c := (((UInt8.ofNat q).toNat : Nat) : Int)) (wrapB q)) ?_
    refine lw_buildSlice hs rfl ((bytesL [UInt8.ofNat q])) Tryz.underlying64 zs5 rfl (cells_one (bytesL_one _)) rfl rfl rfl ?_
    clear hs
    intro b21 w hs
    try simp only [List.set_cons_succ, List.set_cons_zero] at hs
    refine lw_append hs rfl 1 rfl Tryz.underlying64 in5 rfl rfl rfl (src_of_seq (P := Tryz.prog) Tryz.underlying64 ((Rd.cells (n := 1) (cs := bytesL [UInt8.ofNat q]) 0 rfl rfl).seq hs) (bytesL_one _)) (by simp only [bytesL_len, List.length_cons, List.length_nil]; omega) (by simp only [bytesL_len, List.length_cons, List.length_nil]; omega) ?_
    clear hs
    intro a22 c22 w hs
    simp only [List.set_cons_succ, List.set_cons_zero] at hs
    first | refine lw_val rfl (run_assign (v := .slice _ _ _) rfl) ?_
    refine lw_nil ?_
    refine cw_ret ?_
    refine res1 (v := .slice _ _ _) rfl rfl ?_
    have e1 : bytesL out ++ bytesL [UInt8.ofNat q] = bytesL (lb ++ vputL n) := by rw [← bytesL_app, heq]
    have e2 : (bytesL out).length + (bytesL [UInt8.ofNat q]).length = (lb ++ vputL n).length := by rw [← heq]; simp [bytesL_len]
    rw [e1, e2] at hs
    exact ⟨_, rfl, a22, c22, by rw [e2], hs.tail⟩
theorem putint_sl (hs : Mem g w L) {a : Option Addr} {m c : Nat} {lb : List UInt8} {n : Int} {u v q x : Int} {z : Nat} (hr : Rd g L (.slice a m c) (bytesL lb)) (hm : m = lb.length) (hlen : lb.length ≤ 1000000)
    (h1 : IntKind.u64.wrap n = u) (h2 : IntKind.u64.wrap (u * 2 ^ 1) = v) (h3 : n / 2 ^ 63 = q) (h4 : IntKind.u64.wrap q = x) (h5 : bits .xor .u64 v x = (z : Int)) (hz : z < 18446744073709551616) :
    Calls Tryz.prog 198 #[.slice a m c, .int .i64 n] w (Ret fun v w' => ∃ a' c', v = .slice a' (lb ++ vputL z).length c' ∧ Mem g w' (own (.slice a' (lb ++ vputL z).length c') (bytesL (lb ++ vputL z)) :: L)) := by
  refine calls_cw Tryz.func198 rfl rfl ?_
  skip
  refine cw_seq ?_
  refine cw_region ?_
  first | refine lw_val rfl (run_assign (v := .slice _ _ _) rfl) ?_
  refine lw_nil ?_
  refine cw_seq ?_
  refine cw_region ?_
  first | refine lw_val rfl (run_move (v := .slice _ _ _) rfl) ?_
  first | refine lw_val rfl (run_move (v := .int .i64 _) rfl) ?_
  refine lw_val rfl (run_convIn Tryz.underlying2 Tryz.underlying172 rfl h1) ?_
  refine lw_val rfl (run_shl rfl rfl (n := 1) rfl (by decide) h2) ?_
  first | refine lw_val rfl (run_move (v := .int .i64 _) rfl) ?_
  refine lw_val rfl (run_shr rfl rfl (n := 63) rfl (by decide) h3) ?_
  refine lw_val rfl (run_convIn Tryz.underlying2 Tryz.underlying172 rfl h4) ?_
  refine lw_val rfl (run_bits (v := .int .u64 (z : Nat)) (by simp) rfl rfl (by rw [← h5]; rfl)) ?_
  refine lw_call rfl en111 (vput_sl hs hr hm hlen hz) ?_
  clear hs
  rintro _ w ⟨a13, c13, rfl, hs⟩
  first | refine lw_val rfl (run_assign (v := .slice _ _ _) rfl) ?_
  refine lw_nil ?_
  refine cw_ret ?_
  refine res1 (v := .slice _ _ _) rfl rfl ?_
  exact ⟨_, rfl, a13, c13, rfl, hs⟩
end Go.Proofs.YtkogkokmcmallaaGreatDoor
