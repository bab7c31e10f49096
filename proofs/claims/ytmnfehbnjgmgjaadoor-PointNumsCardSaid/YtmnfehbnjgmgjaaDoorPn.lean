/- Numbers as bytes and back, as the statements' reference has it; the law PointNums. -/
import Derived.Test.YtmnfehbnjgmgjaaDoorVm
import Derived.Test.YtmnfehbnjgmgjaaDoorSg
import Derived.Test.YtmnfehbnjgmgjaaDoorP8
namespace Go.Proofs.YtmnfehbnjgmgjaaDoor
set_option linter.all false
open Go.RowKit
attribute [local irreducible] errV eV
variable {g w : World} {L M : List HP} {ad : Nat → Addr}

theorem rput_sl (hs : Mem g w L) {n : Nat} (hn : n < 18446744073709551616) : Calls Tryd.prog 15 #[.int .u64 n] w (Ret fun v w' => ∃ a' c', v = .slice a' (vputL n).length c' ∧ Mem g w' (own (.slice a' (vputL n).length c') (bytesL (vputL n)) :: L)) := by
  have hlb : (vputL n).length ≤ 10 := vputF_len 10 n
  refine calls_cw Tryd.func15 rfl rfl ?_
  skip
  refine cw_seq ?_
  refine cw_region ?_
  first | refine lw_val rfl (run_assign (v := .slice _ _ _) rfl) ?_
  refine lw_nil ?_
  refine cw_seq ?_
  replace hs := hs.addE (own_nil _)
  refine cw_region ?_
  first | refine lw_val rfl (run_assign (v := .slice _ _ _) rfl) ?_
  refine lw_nil ?_
  refine cw_seq ?_
  refine cw_block ?_
  refine cw_loop (X := Nat × Nat × List UInt8 × Option Addr × Nat) [0, 3, 4, 5, 6, 7, 8, 9, 10, 11, 12, 13] (fun x => [(3, .slice x.2.2.2.1 x.2.2.1.length x.2.2.2.2), (0, .int .u64 (x.2.1 : Nat))]) (fun x w => 1 ≤ x.1 ∧ x.2.1 < 2 ^ (7 * x.1) ∧ x.2.1 < 18446744073709551616 ∧ x.2.2.1 ++ vputF x.1 x.2.1 = vputL n ∧ Mem g w (own (.slice x.2.2.2.1 x.2.2.1.length x.2.2.2.2) (bytesL x.2.2.1) :: L)) (fun x => x.1) ((10, n, [], none, 0)) ?_ ?_ ?_
  · exact ⟨rfl, rfl, trivial⟩
  · exact ⟨show 1 ≤ 10 by decide, by show n < 2 ^ 70; omega, hn, rfl, hs⟩
  clear hs
  rintro x ξ w hI
  obtain ⟨f, q, out, oa, oc⟩ := x
  obtain ⟨hf, hq, hq2, heq, hs⟩ := hI
  simp only at hf hq hq2 heq hs
  have hol : out.length ≤ 10 := by have h1 := congrArg List.length heq; simp only [List.length_append] at h1; omega
  show cw _ _ _ _ _ _ (updL (mix _ ξ _) [(3, .slice oa out.length oc), (0, .int .u64 (q : Nat))]) w
  refine cw_seq ?_
  refine cw_seq ?_
  refine cw_region ?_
  first | refine lw_val rfl (run_move (v := .int .u64 _) rfl) ?_
  refine lw_val rfl (run_geq rfl rfl) ?_
  refine lw_nil ?_
  refine cw_if rfl ?_ ?_
  · intro h5
    have g5 := of_decide_eq_true h5
    obtain ⟨f, rfl⟩ : ∃ f', f = f' + 1 := ⟨f - 1, by omega⟩
    have h2 : 2 ^ (7 * (f + 1)) = 128 * 2 ^ (7 * f) := by rw [Nat.mul_add, Nat.pow_add]; omega
    have hq3 : q / 128 < 2 ^ (7 * f) := by rw [h2] at hq; exact Nat.div_lt_of_lt_mul hq
    have hf1 : 1 ≤ f := by rcases Nat.eq_zero_or_pos f with h | h; rw [h] at hq3; simp at hq3; omega; exact h
    have hst : vputF (f + 1) q = UInt8.ofNat (q % 128 + 128) :: vputF f (q / 128) := by conv => lhs; unfold vputF; rw [if_neg (by omega)]
    refine cw_skip ?_
    refine cw_block ?_
    refine cw_seq ?_
    refine cw_region ?_
    first | refine lw_val rfl (run_move (v := .slice _ _ _) rfl) ?_
    first | refine lw_val rfl (run_move (v := .int .u64 _) rfl) ?_
    refine lw_val rfl (run_convIn Tryd.underlying27 Tryd.underlying5 rfl (c := (((UInt8.ofNat q).toNat : Nat) : Int)) (wrapB q)) ?_
    refine lw_val rfl (run_bits (v := .int .u8 (((UInt8.ofNat (q % 128 + 128)).toNat : Nat) : Int)) (by simp) rfl rfl (by rw [← low7n q]; rfl)) ?_
    refine lw_buildSlice hs rfl ((bytesL [UInt8.ofNat (q % 128 + 128)])) Tryd.underlying23 zs5 rfl (cells_one (bytesL_one _)) rfl rfl rfl ?_
    clear hs
    intro b10 w hs
    try simp only [List.set_cons_succ, List.set_cons_zero] at hs
    refine lw_append hs rfl 1 rfl Tryd.underlying23 in5 rfl rfl rfl (src_of_seq (P := Tryd.prog) Tryd.underlying23 ((Rd.cells (n := 1) (cs := bytesL [UInt8.ofNat (q % 128 + 128)]) 0 rfl rfl).seq hs) (bytesL_one _)) (by simp only [bytesL_len, List.length_cons, List.length_nil]; omega) (by simp only [bytesL_len, List.length_cons, List.length_nil]; omega) ?_
    clear hs
    intro a11 c11 w hs
    simp only [List.set_cons_succ, List.set_cons_zero] at hs
    first | refine lw_val rfl (run_assign (v := .slice _ _ _) rfl) ?_
    refine lw_nil ?_
    refine cw_region ?_
    first | refine lw_val rfl (run_move (v := .int .u64 _) rfl) ?_
    refine lw_val rfl (run_shr rfl rfl (n := 7) (c := ((q / 128 : Nat) : Int)) rfl (by decide) (by omega)) ?_
    first | refine lw_val rfl (run_assign (v := .int .u64 _) rfl) ?_
    refine lw_nil ?_
    have e1 : bytesL out ++ bytesL [UInt8.ofNat (q % 128 + 128)] = bytesL (out ++ [UInt8.ofNat (q % 128 + 128)]) := (bytesL_app _ _).symm
    have e2 : (bytesL out).length + (bytesL [UInt8.ofNat (q % 128 + 128)]).length = (out ++ [UInt8.ofNat (q % 128 + 128)]).length := by simp [bytesL_len]
    rw [e1, e2] at hs
    exact ⟨(f, q / 128, out ++ [UInt8.ofNat (q % 128 + 128)], a11, c11), by simp only; omega, ⟨hf1, hq3, by show q / 128 < _; omega, by rw [← heq, hst]; simp, hs.tail⟩, ⟨show Value.slice a11 ((bytesL out).length + (bytesL [UInt8.ofNat (q % 128 + 128)]).length) c11 = Value.slice a11 (out ++ [UInt8.ofNat (q % 128 + 128)]).length c11 from by rw [e2], rfl, trivial⟩, by repeat (first | exact Out.mix _ _ _ | refine Out.updo rfl ?_ | refine Out.upd rfl ?_ | refine Out.mixIn rfl ?_)⟩
  · intro h5
    have g5 := of_decide_eq_false h5
    obtain ⟨f, rfl⟩ : ∃ f', f = f' + 1 := ⟨f - 1, by omega⟩
    have hst : vputF (f + 1) q = [UInt8.ofNat q] := by unfold vputF; rw [if_pos (by omega)]
    rw [hst] at heq
    refine cw_exit rfl ?_
    refine cw_seq ?_
    refine cw_region ?_
    first | refine lw_val rfl (run_move (v := .slice _ _ _) rfl) ?_
    first | refine lw_val rfl (run_move (v := .int .u64 _) rfl) ?_
    refine lw_val rfl (run_convIn Tryd.underlying27 Tryd.underlying5 rfl (c := (((UInt8.ofNat q).toNat : Nat) : Int)) (wrapB q)) ?_
    refine lw_buildSlice hs rfl ((bytesL [UInt8.ofNat q])) Tryd.underlying23 zs5 rfl (cells_one (bytesL_one _)) rfl rfl rfl ?_
    clear hs
    intro b17 w hs
    try simp only [List.set_cons_succ, List.set_cons_zero] at hs
    refine lw_append hs rfl 1 rfl Tryd.underlying23 in5 rfl rfl rfl (src_of_seq (P := Tryd.prog) Tryd.underlying23 ((Rd.cells (n := 1) (cs := bytesL [UInt8.ofNat q]) 0 rfl rfl).seq hs) (bytesL_one _)) (by simp only [bytesL_len, List.length_cons, List.length_nil]; omega) (by simp only [bytesL_len, List.length_cons, List.length_nil]; omega) ?_
    clear hs
    intro a18 c18 w hs
    simp only [List.set_cons_succ, List.set_cons_zero] at hs
    first | refine lw_val rfl (run_assign (v := .slice _ _ _) rfl) ?_
    refine lw_nil ?_
    refine cw_ret ?_
    refine res1 (v := .slice _ _ _) rfl rfl ?_
    have e1 : bytesL out ++ bytesL [UInt8.ofNat q] = bytesL (vputL n) := by rw [← bytesL_app, heq]
    have e2 : (bytesL out).length + (bytesL [UInt8.ofNat q]).length = (vputL n).length := by rw [← heq]; simp [bytesL_len]
    rw [e1, e2] at hs
    exact ⟨_, rfl, a18, c18, by rw [e2], hs.tail⟩
theorem rputint_sl (hs : Mem g w L) {z : Int} (hz : InI64 z) : Calls Tryd.prog 16 #[.int .i64 z] w (Ret fun v w' => ∃ a' c', v = .slice a' (vputL (zig z)).length c' ∧ Mem g w' (own (.slice a' (vputL (zig z)).length c') (bytesL (vputL (zig z))) :: L)) := by
  refine calls_cw Tryd.func16 rfl rfl ?_
  skip
  refine cw_seq ?_
  refine cw_region ?_
  first | refine lw_val rfl (run_assign (v := .slice _ _ _) rfl) ?_
  refine lw_nil ?_
  refine cw_seq ?_
  refine cw_region ?_
  first | refine lw_val rfl (run_move (v := .int .i64 _) rfl) ?_
  refine lw_val rfl (run_convIn Tryd.underlying2 Tryd.underlying27 rfl rfl) ?_
  refine lw_val rfl (run_shl rfl rfl (n := 1) rfl (by decide) rfl) ?_
  first | refine lw_val rfl (run_move (v := .int .i64 _) rfl) ?_
  refine lw_val rfl (run_shr rfl rfl (n := 63) rfl (by decide) rfl) ?_
  refine lw_val rfl (run_convIn Tryd.underlying2 Tryd.underlying27 rfl rfl) ?_
  refine lw_val rfl (run_bits (v := .int .u64 (zig z : Nat)) (by simp) rfl rfl (by rw [← zig_bits hz]; rfl)) ?_
  refine lw_call rfl en15 (rput_sl hs (zig_lt hz)) ?_
  clear hs
  rintro _ w ⟨a10, c10, rfl, hs⟩
  first | refine lw_val rfl (run_assign (v := .slice _ _ _) rfl) ?_
  refine lw_nil ?_
  refine cw_ret ?_
  refine res1 (v := .slice _ _ _) rfl rfl ?_
  exact ⟨_, rfl, a10, c10, rfl, hs⟩
theorem seven_in2 {n i c : Nat} (hn : n < 2 ^ (7 * i)) (hi : i ≤ 9) (hc : c < 128) (h9 : i = 9 → c ≤ 1) : n + c * 2 ^ (7 * i) < 18446744073709551616 ∧ c * 2 ^ (7 * i) < 18446744073709551616 ∧ n + c * 2 ^ (7 * i) < 2 ^ (7 * (i + 1)) := by
  have e : (UInt8.ofNat c).toNat = c := by rw [UInt8.toNat_ofNat']; omega
  have h := seven_in (c := UInt8.ofNat c) hn hi (fun h => by rw [e]; exact h9 h)
  rw [e, Nat.mod_eq_of_lt hc] at h
  exact h
theorem vget_more {b : List UInt8} {i c x : Nat} {r z : Nat × Nat × Nat} (hv : (if i = 9 ∧ 1 < c then (103, 0, 0) else if 128 ≤ c then vgetF (9 - i) (i + 1) x b else z) = r) (hi : i ≤ 9) (hc : 128 ≤ c) : vgetF (9 - i) (i + 1) x b = r := by
  by_cases h9 : i = 9
  · subst h9
    rw [if_pos ⟨rfl, by omega⟩] at hv
    exact hv
  · rw [if_neg (fun h => h9 h.1), if_pos hc] at hv
    exact hv
theorem rget_sl (hs : Mem g w L) {a : Option Addr} {m c : Nat} {b : List UInt8} (hr : Rd g L (.slice a m c) (bytesL b)) (hm : m = b.length) (hlen : b.length ≤ 1073741824) {k n q : Nat} (hk : vget b = (k, n, q)) :
    Calls Tryd.prog 65 #[.slice a m c] w (Ret fun v w' => v = .tuple #[.int .u64 n, .int .i64 q, .int .i64 k] ∧ Mem g w' L) := by
  subst hm
  refine calls_cw Tryd.func65 rfl rfl ?_
  skip
  refine cw_seq ?_
  refine cw_region ?_
  first | refine lw_val rfl (run_assign (v := .int .u64 _) rfl) ?_
  first | refine lw_val rfl (run_assign (v := .int .i64 _) rfl) ?_
  first | refine lw_val rfl (run_assign (v := .int .i64 _) rfl) ?_
  refine lw_nil ?_
  refine cw_seq ?_
  refine cw_region ?_
  first | refine lw_val rfl (run_assign (v := .int .u64 _) rfl) ?_
  refine lw_nil ?_
  refine cw_seq ?_
  refine cw_seq ?_
  refine cw_region ?_
  first | refine lw_val rfl (run_assign (v := .int .i64 _) rfl) ?_
  refine lw_nil ?_
  refine cw_block ?_
  refine cw_loop (X := Nat × Nat) [2, 3, 4, 5, 6, 7, 8, 9, 10, 11, 12, 13, 14, 15, 16, 17, 18, 19, 20, 21, 22, 23, 24, 25, 26, 27, 28, 29, 30, 31, 32, 33, 34, 35, 36, 37, 38, 39, 40, 41, 42, 43, 44, 45, 46, 47, 48, 49, 50, 51, 52, 53] (fun x => [(6, .int .i64 (x.1 : Nat)), (5, .int .u64 (x.2 : Nat))]) (fun x w => x.1 ≤ 10 ∧ x.2 < 2 ^ (7 * x.1) ∧ vgetF (10 - x.1) x.1 x.2 b = (k, n, q) ∧ Mem g w L) (fun x => 10 - x.1) ((0, 0)) ?_ ?_ ?_
  · exact ⟨rfl, rfl, trivial⟩
  · exact ⟨Nat.zero_le _, by decide, hk, hs⟩
  clear hs
  rintro x ξ w hI
  obtain ⟨i, s⟩ := x
  obtain ⟨hi, hsm, hv, hs⟩ := hI
  simp only at hi hsm hv hs
  show cw _ _ _ _ _ _ (updL (mix _ ξ _) [(6, .int .i64 (i : Nat)), (5, .int .u64 (s : Nat))]) w
  refine cw_seq ?_
  refine cw_seq ?_
  refine cw_region ?_
  first | refine lw_val rfl (run_move (v := .int .i64 _) rfl) ?_
  refine lw_val rfl (run_lss rfl rfl) ?_
  refine lw_nil ?_
  refine cw_if rfl ?_ ?_
  · intro h9
    have g9 := of_decide_eq_true h9
    rw [show 10 - i = (9 - i) + 1 by omega] at hv
    refine cw_skip ?_
    refine cw_seq ?_
    refine cw_block ?_
    refine cw_seq ?_
    refine cw_seq ?_
    refine cw_region ?_
    first | refine lw_val rfl (run_move (v := .int .i64 _) rfl) ?_
    first | refine lw_val rfl (run_move (v := .slice _ _ _) rfl) ?_
    refine lw_val rfl (run_lenS Tryd.underlying23 rfl) ?_
    refine lw_val rfl (run_geq rfl rfl) ?_
    refine lw_nil ?_
    refine cw_if rfl ?_ ?_
    · intro h15
      have g15 := of_decide_eq_true h15
      rw [vgetF_none (List.getElem?_eq_none (by omega))] at hv
      cases hv
      refine cw_seq ?_
      refine cw_region ?_
      first | refine lw_val rfl (run_assign (v := .int .u64 _) rfl) ?_
      first | refine lw_val rfl (run_assign (v := .int .i64 _) rfl) ?_
      first | refine lw_val rfl (run_assign (v := .int .i64 _) rfl) ?_
      refine lw_nil ?_
      refine cw_ret ?_
      refine res3 (v := .int .u64 _) (v2 := .int .i64 _) (v3 := .int .i64 _) rfl rfl rfl rfl ?_
      exact ⟨_, rfl, rfl, hs⟩
    · intro h15
      have g15 := of_decide_eq_false h15
      obtain ⟨ch, hch⟩ : ∃ ch, b[i]? = some ch := ⟨_, List.getElem?_eq_getElem (by omega)⟩
      rw [vgetF_some hch] at hv
      obtain ⟨b1, o1, rfl, _⟩ := hr.cells' hs (by rw [bytesL_len]; omega)
      have hcb := UInt8.toNat_lt ch
      refine cw_skip ?_
      refine cw_seq ?_
      refine cw_region ?_
      first | refine lw_val rfl (run_move (v := .slice _ _ _) rfl) ?_
      first | refine lw_val rfl (run_move (v := .int .i64 _) rfl) ?_
      refine lw_val rfl (run_indexAddr Tryd.underlying23 sz5 rfl rfl rfl (by omega) rfl) ?_
      refine lw_val rfl (run_load Tryd.underlying5 rfl rfl (hr.cellAt hs (bytesL_at hch))) ?_
      refine lw_val rfl (run_bits (v := .int .u8 ((ch.toNat % 128 : Nat) : Int)) (by simp) rfl rfl (by rw [← low7b ch]; rfl)) ?_
      refine lw_val rfl (run_convIn Tryd.underlying5 Tryd.underlying27 rfl (c := ((ch.toNat % 128 : Nat) : Int)) (by rw [wrap_u64]; omega)) ?_
      first | refine lw_val rfl (run_assign (v := .int .u64 _) rfl) ?_
      refine lw_nil ?_
      refine cw_seq ?_
      refine cw_seq ?_
      refine cw_region ?_
      first | refine lw_val rfl (run_move (v := .int .i64 _) rfl) ?_
      refine lw_val rfl (run_eqi rfl rfl) ?_
      first | refine lw_val rfl (run_move (v := .bool _) rfl) ?_
      refine lw_split (t := _) (d := 24) rfl ?_ ?_
      · intro h23
        have g23 := of_decide_eq_true h23
        refine lw_on rfl rfl h23 ?_
        first | refine lw_val rfl (run_move (v := .int .u64 _) rfl) ?_
        refine lw_on rfl rfl h23 ?_
        refine lw_val rfl (run_gtr rfl rfl) ?_
        first | refine lw_val rfl (run_pickT (v := .bool _) rfl h23 rfl) ?_
        first | refine lw_val rfl (run_move (v := .bool _) rfl) ?_
        refine lw_split (t := _) (d := 28) rfl ?_ ?_
        · intro h26
          have g26 := of_decide_eq_true h26
          rw [if_pos ⟨by omega, by omega⟩] at hv
          cases hv
          refine lw_off rfl rfl rfl h26 ?_
          refine lw_off rfl rfl rfl h26 ?_
          refine lw_off rfl rfl rfl h26 ?_
          refine lw_offU rfl rfl rfl ?_
          refine lw_offU rfl rfl rfl ?_
          refine lw_offU rfl rfl rfl ?_
          refine lw_offU rfl rfl rfl ?_
          refine lw_offU rfl rfl rfl ?_
          refine lw_off rfl rfl rfl h26 ?_
          first | refine lw_val rfl (run_pickT (v := .bool _) rfl h26 rfl) ?_
          refine lw_nil ?_
          refine cw_ift rfl rfl ?_
          refine cw_seq ?_
          refine cw_region ?_
          first | refine lw_val rfl (run_assign (v := .int .u64 _) rfl) ?_
          first | refine lw_val rfl (run_assign (v := .int .i64 _) rfl) ?_
          first | refine lw_val rfl (run_assign (v := .int .i64 _) rfl) ?_
          refine lw_nil ?_
          refine cw_ret ?_
          refine res3 (v := .int .u64 _) (v2 := .int .i64 _) (v3 := .int .i64 _) rfl rfl rfl rfl ?_
          exact ⟨_, rfl, rfl, hs⟩
        · intro h26
          have g26 := of_decide_eq_false h26
          refine lw_on rfl rfl h26 ?_
          first | refine lw_val rfl (run_move (v := .int .i64 _) rfl) ?_
          refine lw_on rfl rfl h26 ?_
          refine lw_val rfl (run_gtr rfl rfl) ?_
          refine lw_on rfl rfl h26 ?_
          first | refine lw_val rfl (run_move (v := .bool _) rfl) ?_
          refine lw_split (t := _) (d := 31) rfl ?_ ?_
          · intro h30
            have g30 := of_decide_eq_true h30
            refine lw_on rfl rfl h30 ?_
            first | refine lw_val rfl (run_move (v := .slice _ _ _) rfl) ?_
            refine lw_on rfl rfl h30 ?_
            first | refine lw_val rfl (run_move (v := .int .i64 _) rfl) ?_
            refine lw_on rfl rfl h30 ?_
            refine lw_val rfl (run_indexAddr Tryd.underlying23 sz5 rfl rfl rfl (by omega) rfl) ?_
            refine lw_on rfl rfl h30 ?_
            refine lw_val rfl (run_load Tryd.underlying5 rfl rfl (hr.cellAt hs (bytesL_at hch))) ?_
            refine lw_on rfl rfl h30 ?_
            refine lw_val rfl (run_eqi rfl rfl) ?_
            refine lw_on rfl rfl h26 ?_
            first | refine lw_val rfl (run_pickT (v := .bool _) rfl h30 rfl) ?_
            first | refine lw_val rfl (run_pickF (v := .bool _) rfl h26 rfl) ?_
            refine lw_nil ?_
            refine cw_if rfl ?_ ?_
            · intro h36
              have g36 := of_decide_eq_true h36
              rw [if_neg (by omega), if_neg (by omega), if_pos ⟨by omega, by omega⟩] at hv
              cases hv
              refine cw_seq ?_
              refine cw_region ?_
              first | refine lw_val rfl (run_assign (v := .int .u64 _) rfl) ?_
              first | refine lw_val rfl (run_assign (v := .int .i64 _) rfl) ?_
              first | refine lw_val rfl (run_assign (v := .int .i64 _) rfl) ?_
              refine lw_nil ?_
              refine cw_ret ?_
              refine res3 (v := .int .u64 _) (v2 := .int .i64 _) (v3 := .int .i64 _) rfl rfl rfl rfl ?_
              exact ⟨_, rfl, rfl, hs⟩
            · intro h36
              have g36 := of_decide_eq_false h36
              refine cw_skip ?_
              refine cw_seq ?_
              obtain ⟨hx1, hx2, hx3⟩ := seven_in2 (c := ch.toNat % 128) hsm (by omega) (by omega) (fun h => by omega)
              refine cw_region ?_
              first | refine lw_val rfl (run_move (v := .int .u64 _) rfl) ?_
              first | refine lw_val rfl (run_move (v := .int .u64 _) rfl) ?_
              first | refine lw_val rfl (run_move (v := .int .i64 _) rfl) ?_
              refine lw_val rfl (run_mul64 rfl rfl (c := ((7 * i : Nat) : Int)) (by omega) (inI (by omega) (by omega))) ?_
              refine lw_val rfl (run_convIn Tryd.underlying3 Tryd.underlying95 rfl (c := ((7 * i : Nat) : Int)) (by rw [wrap_u64]; omega)) ?_
              refine lw_val rfl (run_shl rfl rfl (n := 7 * i) (c := ((ch.toNat % 128 * 2 ^ (7 * i) : Nat) : Int)) rfl (by show 7 * i ≤ 64; omega) (by rw [wrap_u64, show ((ch.toNat % 128 : Nat) : Int) * 2 ^ (7 * i) = ((ch.toNat % 128 * 2 ^ (7 * i) : Nat) : Int) by push_cast; rfl]; omega)) ?_
              refine lw_val rfl (run_bits (v := .int .u64 ((s + ch.toNat % 128 * 2 ^ (7 * i) : Nat) : Int)) (by simp) rfl rfl (by rw [← or_add hsm, ← or_u64 s _ (by omega) hx2]; rfl)) ?_
              first | refine lw_val rfl (run_assign (v := .int .u64 _) rfl) ?_
              refine lw_nil ?_
              refine cw_seq ?_
              refine cw_region ?_
              first | refine lw_val rfl (run_move (v := .slice _ _ _) rfl) ?_
              first | refine lw_val rfl (run_move (v := .int .i64 _) rfl) ?_
              refine lw_val rfl (run_indexAddr Tryd.underlying23 sz5 rfl rfl rfl (by omega) rfl) ?_
              refine lw_val rfl (run_load Tryd.underlying5 rfl rfl (hr.cellAt hs (bytesL_at hch))) ?_
              refine lw_val rfl (run_lss rfl rfl) ?_
              refine lw_nil ?_
              refine cw_if rfl ?_ ?_
              · intro h50
                have g50 := of_decide_eq_true h50
                rw [if_neg (by omega), if_neg (by omega), if_neg (by omega)] at hv
                cases hv
                refine cw_seq ?_
                refine cw_region ?_
                first | refine lw_val rfl (run_move (v := .int .u64 _) rfl) ?_
                first | refine lw_val rfl (run_move (v := .int .i64 _) rfl) ?_
                refine lw_val rfl (run_add64 rfl rfl rfl (inI (by omega) (by omega))) ?_
                first | refine lw_val rfl (run_assign (v := .int .u64 _) rfl) ?_
                first | refine lw_val rfl (run_assign (v := .int .i64 _) rfl) ?_
                first | refine lw_val rfl (run_assign (v := .int .i64 _) rfl) ?_
                refine lw_nil ?_
                refine cw_ret ?_
                refine res3 (v := .int .u64 _) (v2 := .int .i64 _) (v3 := .int .i64 _) rfl rfl rfl rfl ?_
                exact ⟨_, rfl, rfl, hs⟩
              · intro h50
                have g50 := of_decide_eq_false h50
                have hv2 := vget_more hv (by omega) (by omega)
                refine cw_skip ?_
                refine cw_region ?_
                first | refine lw_val rfl (run_move (v := .int .i64 _) rfl) ?_
                refine lw_val rfl (run_add64 rfl rfl rfl (inI (by omega) (by omega))) ?_
                first | refine lw_val rfl (run_assign (v := .int .i64 _) rfl) ?_
                refine lw_nil ?_
                exact ⟨(i + 1, s + ch.toNat % 128 * 2 ^ (7 * i)), by simp only; omega, ⟨by simp only; omega, hx3, by show vgetF (10 - (i + 1)) (i + 1) _ b = _; rw [show 10 - (i + 1) = 9 - i by omega]; exact hv2, hs⟩, ⟨rfl, rfl, trivial⟩, by repeat (first | exact Out.mix _ _ _ | refine Out.updo rfl ?_ | refine Out.upd rfl ?_ | refine Out.mixIn rfl ?_)⟩
          · intro h30
            have g30 := of_decide_eq_false h30
            refine lw_off rfl rfl rfl h30 ?_
            refine lw_off rfl rfl rfl h30 ?_
            refine lw_off rfl rfl rfl h30 ?_
            refine lw_off rfl rfl rfl h30 ?_
            refine lw_off rfl rfl rfl h30 ?_
            refine lw_on rfl rfl h26 ?_
            first | refine lw_val rfl (run_pickF (v := .bool _) rfl h30 rfl) ?_
            first | refine lw_val rfl (run_pickF (v := .bool _) rfl h26 rfl) ?_
            refine lw_nil ?_
            refine cw_iff rfl rfl ?_
            refine cw_skip ?_
            refine cw_seq ?_
            obtain ⟨hx1, hx2, hx3⟩ := seven_in2 (c := ch.toNat % 128) hsm (by omega) (by omega) (fun h => by omega)
            refine cw_region ?_
            first | refine lw_val rfl (run_move (v := .int .u64 _) rfl) ?_
            first | refine lw_val rfl (run_move (v := .int .u64 _) rfl) ?_
            first | refine lw_val rfl (run_move (v := .int .i64 _) rfl) ?_
            refine lw_val rfl (run_mul64 rfl rfl (c := ((7 * i : Nat) : Int)) (by omega) (inI (by omega) (by omega))) ?_
            refine lw_val rfl (run_convIn Tryd.underlying3 Tryd.underlying95 rfl (c := ((7 * i : Nat) : Int)) (by rw [wrap_u64]; omega)) ?_
            refine lw_val rfl (run_shl rfl rfl (n := 7 * i) (c := ((ch.toNat % 128 * 2 ^ (7 * i) : Nat) : Int)) rfl (by show 7 * i ≤ 64; omega) (by rw [wrap_u64, show ((ch.toNat % 128 : Nat) : Int) * 2 ^ (7 * i) = ((ch.toNat % 128 * 2 ^ (7 * i) : Nat) : Int) by push_cast; rfl]; omega)) ?_
            refine lw_val rfl (run_bits (v := .int .u64 ((s + ch.toNat % 128 * 2 ^ (7 * i) : Nat) : Int)) (by simp) rfl rfl (by rw [← or_add hsm, ← or_u64 s _ (by omega) hx2]; rfl)) ?_
            first | refine lw_val rfl (run_assign (v := .int .u64 _) rfl) ?_
            refine lw_nil ?_
            refine cw_seq ?_
            refine cw_region ?_
            first | refine lw_val rfl (run_move (v := .slice _ _ _) rfl) ?_
            first | refine lw_val rfl (run_move (v := .int .i64 _) rfl) ?_
            refine lw_val rfl (run_indexAddr Tryd.underlying23 sz5 rfl rfl rfl (by omega) rfl) ?_
            refine lw_val rfl (run_load Tryd.underlying5 rfl rfl (hr.cellAt hs (bytesL_at hch))) ?_
            refine lw_val rfl (run_lss rfl rfl) ?_
            refine lw_nil ?_
            refine cw_if rfl ?_ ?_
            · intro h50
              have g50 := of_decide_eq_true h50
              rw [if_neg (by omega), if_neg (by omega), if_neg (by omega)] at hv
              cases hv
              refine cw_seq ?_
              refine cw_region ?_
              first | refine lw_val rfl (run_move (v := .int .u64 _) rfl) ?_
              first | refine lw_val rfl (run_move (v := .int .i64 _) rfl) ?_
              refine lw_val rfl (run_add64 rfl rfl rfl (inI (by omega) (by omega))) ?_
              first | refine lw_val rfl (run_assign (v := .int .u64 _) rfl) ?_
              first | refine lw_val rfl (run_assign (v := .int .i64 _) rfl) ?_
              first | refine lw_val rfl (run_assign (v := .int .i64 _) rfl) ?_
              refine lw_nil ?_
              refine cw_ret ?_
              refine res3 (v := .int .u64 _) (v2 := .int .i64 _) (v3 := .int .i64 _) rfl rfl rfl rfl ?_
              exact ⟨_, rfl, rfl, hs⟩
            · intro h50
              have g50 := of_decide_eq_false h50
              have hv2 := vget_more hv (by omega) (by omega)
              refine cw_skip ?_
              refine cw_region ?_
              first | refine lw_val rfl (run_move (v := .int .i64 _) rfl) ?_
              refine lw_val rfl (run_add64 rfl rfl rfl (inI (by omega) (by omega))) ?_
              first | refine lw_val rfl (run_assign (v := .int .i64 _) rfl) ?_
              refine lw_nil ?_
              exact ⟨(i + 1, s + ch.toNat % 128 * 2 ^ (7 * i)), by simp only; omega, ⟨by simp only; omega, hx3, by show vgetF (10 - (i + 1)) (i + 1) _ b = _; rw [show 10 - (i + 1) = 9 - i by omega]; exact hv2, hs⟩, ⟨rfl, rfl, trivial⟩, by repeat (first | exact Out.mix _ _ _ | refine Out.updo rfl ?_ | refine Out.upd rfl ?_ | refine Out.mixIn rfl ?_)⟩
      · intro h23
        have g23 := of_decide_eq_false h23
        refine lw_off rfl rfl rfl h23 ?_
        refine lw_off rfl rfl rfl h23 ?_
        first | refine lw_val rfl (run_pickF (v := .bool _) rfl h23 rfl) ?_
        first | refine lw_val rfl (run_move (v := .bool _) rfl) ?_
        refine lw_on rfl rfl rfl ?_
        first | refine lw_val rfl (run_move (v := .int .i64 _) rfl) ?_
        refine lw_on rfl rfl rfl ?_
        refine lw_val rfl (run_gtr rfl rfl) ?_
        refine lw_on rfl rfl rfl ?_
        first | refine lw_val rfl (run_move (v := .bool _) rfl) ?_
        refine lw_split (t := _) (d := 31) rfl ?_ ?_
        · intro h30
          have g30 := of_decide_eq_true h30
          refine lw_on rfl rfl h30 ?_
          first | refine lw_val rfl (run_move (v := .slice _ _ _) rfl) ?_
          refine lw_on rfl rfl h30 ?_
          first | refine lw_val rfl (run_move (v := .int .i64 _) rfl) ?_
          refine lw_on rfl rfl h30 ?_
          refine lw_val rfl (run_indexAddr Tryd.underlying23 sz5 rfl rfl rfl (by omega) rfl) ?_
          refine lw_on rfl rfl h30 ?_
          refine lw_val rfl (run_load Tryd.underlying5 rfl rfl (hr.cellAt hs (bytesL_at hch))) ?_
          refine lw_on rfl rfl h30 ?_
          refine lw_val rfl (run_eqi rfl rfl) ?_
          refine lw_on rfl rfl rfl ?_
          first | refine lw_val rfl (run_pickT (v := .bool _) rfl h30 rfl) ?_
          first | refine lw_val rfl (run_pickF (v := .bool _) rfl rfl rfl) ?_
          refine lw_nil ?_
          refine cw_if rfl ?_ ?_
          · intro h36
            have g36 := of_decide_eq_true h36
            rw [if_neg (by omega), if_neg (by omega), if_pos ⟨by omega, by omega⟩] at hv
            cases hv
            refine cw_seq ?_
            refine cw_region ?_
            first | refine lw_val rfl (run_assign (v := .int .u64 _) rfl) ?_
            first | refine lw_val rfl (run_assign (v := .int .i64 _) rfl) ?_
            first | refine lw_val rfl (run_assign (v := .int .i64 _) rfl) ?_
            refine lw_nil ?_
            refine cw_ret ?_
            refine res3 (v := .int .u64 _) (v2 := .int .i64 _) (v3 := .int .i64 _) rfl rfl rfl rfl ?_
            exact ⟨_, rfl, rfl, hs⟩
          · intro h36
            have g36 := of_decide_eq_false h36
            refine cw_skip ?_
            refine cw_seq ?_
            obtain ⟨hx1, hx2, hx3⟩ := seven_in2 (c := ch.toNat % 128) hsm (by omega) (by omega) (fun h => by omega)
            refine cw_region ?_
            first | refine lw_val rfl (run_move (v := .int .u64 _) rfl) ?_
            first | refine lw_val rfl (run_move (v := .int .u64 _) rfl) ?_
            first | refine lw_val rfl (run_move (v := .int .i64 _) rfl) ?_
            refine lw_val rfl (run_mul64 rfl rfl (c := ((7 * i : Nat) : Int)) (by omega) (inI (by omega) (by omega))) ?_
            refine lw_val rfl (run_convIn Tryd.underlying3 Tryd.underlying95 rfl (c := ((7 * i : Nat) : Int)) (by rw [wrap_u64]; omega)) ?_
            refine lw_val rfl (run_shl rfl rfl (n := 7 * i) (c := ((ch.toNat % 128 * 2 ^ (7 * i) : Nat) : Int)) rfl (by show 7 * i ≤ 64; omega) (by rw [wrap_u64, show ((ch.toNat % 128 : Nat) : Int) * 2 ^ (7 * i) = ((ch.toNat % 128 * 2 ^ (7 * i) : Nat) : Int) by push_cast; rfl]; omega)) ?_
            refine lw_val rfl (run_bits (v := .int .u64 ((s + ch.toNat % 128 * 2 ^ (7 * i) : Nat) : Int)) (by simp) rfl rfl (by rw [← or_add hsm, ← or_u64 s _ (by omega) hx2]; rfl)) ?_
            first | refine lw_val rfl (run_assign (v := .int .u64 _) rfl) ?_
            refine lw_nil ?_
            refine cw_seq ?_
            refine cw_region ?_
            first | refine lw_val rfl (run_move (v := .slice _ _ _) rfl) ?_
            first | refine lw_val rfl (run_move (v := .int .i64 _) rfl) ?_
            refine lw_val rfl (run_indexAddr Tryd.underlying23 sz5 rfl rfl rfl (by omega) rfl) ?_
            refine lw_val rfl (run_load Tryd.underlying5 rfl rfl (hr.cellAt hs (bytesL_at hch))) ?_
            refine lw_val rfl (run_lss rfl rfl) ?_
            refine lw_nil ?_
            refine cw_if rfl ?_ ?_
            · intro h50
              have g50 := of_decide_eq_true h50
              rw [if_neg (by omega), if_neg (by omega), if_neg (by omega)] at hv
              cases hv
              refine cw_seq ?_
              refine cw_region ?_
              first | refine lw_val rfl (run_move (v := .int .u64 _) rfl) ?_
              first | refine lw_val rfl (run_move (v := .int .i64 _) rfl) ?_
              refine lw_val rfl (run_add64 rfl rfl rfl (inI (by omega) (by omega))) ?_
              first | refine lw_val rfl (run_assign (v := .int .u64 _) rfl) ?_
              first | refine lw_val rfl (run_assign (v := .int .i64 _) rfl) ?_
              first | refine lw_val rfl (run_assign (v := .int .i64 _) rfl) ?_
              refine lw_nil ?_
              refine cw_ret ?_
              refine res3 (v := .int .u64 _) (v2 := .int .i64 _) (v3 := .int .i64 _) rfl rfl rfl rfl ?_
              exact ⟨_, rfl, rfl, hs⟩
            · intro h50
              have g50 := of_decide_eq_false h50
              have hv2 := vget_more hv (by omega) (by omega)
              refine cw_skip ?_
              refine cw_region ?_
              first | refine lw_val rfl (run_move (v := .int .i64 _) rfl) ?_
              refine lw_val rfl (run_add64 rfl rfl rfl (inI (by omega) (by omega))) ?_
              first | refine lw_val rfl (run_assign (v := .int .i64 _) rfl) ?_
              refine lw_nil ?_
              exact ⟨(i + 1, s + ch.toNat % 128 * 2 ^ (7 * i)), by simp only; omega, ⟨by simp only; omega, hx3, by show vgetF (10 - (i + 1)) (i + 1) _ b = _; rw [show 10 - (i + 1) = 9 - i by omega]; exact hv2, hs⟩, ⟨rfl, rfl, trivial⟩, by repeat (first | exact Out.mix _ _ _ | refine Out.updo rfl ?_ | refine Out.upd rfl ?_ | refine Out.mixIn rfl ?_)⟩
        · intro h30
          have g30 := of_decide_eq_false h30
          refine lw_off rfl rfl rfl h30 ?_
          refine lw_off rfl rfl rfl h30 ?_
          refine lw_off rfl rfl rfl h30 ?_
          refine lw_off rfl rfl rfl h30 ?_
          refine lw_off rfl rfl rfl h30 ?_
          refine lw_on rfl rfl rfl ?_
          first | refine lw_val rfl (run_pickF (v := .bool _) rfl h30 rfl) ?_
          first | refine lw_val rfl (run_pickF (v := .bool _) rfl rfl rfl) ?_
          refine lw_nil ?_
          refine cw_iff rfl rfl ?_
          refine cw_skip ?_
          refine cw_seq ?_
          obtain ⟨hx1, hx2, hx3⟩ := seven_in2 (c := ch.toNat % 128) hsm (by omega) (by omega) (fun h => by omega)
          refine cw_region ?_
          first | refine lw_val rfl (run_move (v := .int .u64 _) rfl) ?_
          first | refine lw_val rfl (run_move (v := .int .u64 _) rfl) ?_
          first | refine lw_val rfl (run_move (v := .int .i64 _) rfl) ?_
          refine lw_val rfl (run_mul64 rfl rfl (c := ((7 * i : Nat) : Int)) (by omega) (inI (by omega) (by omega))) ?_
          refine lw_val rfl (run_convIn Tryd.underlying3 Tryd.underlying95 rfl (c := ((7 * i : Nat) : Int)) (by rw [wrap_u64]; omega)) ?_
          refine lw_val rfl (run_shl rfl rfl (n := 7 * i) (c := ((ch.toNat % 128 * 2 ^ (7 * i) : Nat) : Int)) rfl (by show 7 * i ≤ 64; omega) (by rw [wrap_u64, show ((ch.toNat % 128 : Nat) : Int) * 2 ^ (7 * i) = ((ch.toNat % 128 * 2 ^ (7 * i) : Nat) : Int) by push_cast; rfl]; omega)) ?_
          refine lw_val rfl (run_bits (v := .int .u64 ((s + ch.toNat % 128 * 2 ^ (7 * i) : Nat) : Int)) (by simp) rfl rfl (by rw [← or_add hsm, ← or_u64 s _ (by omega) hx2]; rfl)) ?_
          first | refine lw_val rfl (run_assign (v := .int .u64 _) rfl) ?_
          refine lw_nil ?_
          refine cw_seq ?_
          refine cw_region ?_
          first | refine lw_val rfl (run_move (v := .slice _ _ _) rfl) ?_
          first | refine lw_val rfl (run_move (v := .int .i64 _) rfl) ?_
          refine lw_val rfl (run_indexAddr Tryd.underlying23 sz5 rfl rfl rfl (by omega) rfl) ?_
          refine lw_val rfl (run_load Tryd.underlying5 rfl rfl (hr.cellAt hs (bytesL_at hch))) ?_
          refine lw_val rfl (run_lss rfl rfl) ?_
          refine lw_nil ?_
          refine cw_if rfl ?_ ?_
          · intro h50
            have g50 := of_decide_eq_true h50
            rw [if_neg (by omega), if_neg (by omega), if_neg (by omega)] at hv
            cases hv
            refine cw_seq ?_
            refine cw_region ?_
            first | refine lw_val rfl (run_move (v := .int .u64 _) rfl) ?_
            first | refine lw_val rfl (run_move (v := .int .i64 _) rfl) ?_
            refine lw_val rfl (run_add64 rfl rfl rfl (inI (by omega) (by omega))) ?_
            first | refine lw_val rfl (run_assign (v := .int .u64 _) rfl) ?_
            first | refine lw_val rfl (run_assign (v := .int .i64 _) rfl) ?_
            first | refine lw_val rfl (run_assign (v := .int .i64 _) rfl) ?_
            refine lw_nil ?_
            refine cw_ret ?_
            refine res3 (v := .int .u64 _) (v2 := .int .i64 _) (v3 := .int .i64 _) rfl rfl rfl rfl ?_
            exact ⟨_, rfl, rfl, hs⟩
          · intro h50
            have g50 := of_decide_eq_false h50
            have hv2 := vget_more hv (by omega) (by omega)
            refine cw_skip ?_
            refine cw_region ?_
            first | refine lw_val rfl (run_move (v := .int .i64 _) rfl) ?_
            refine lw_val rfl (run_add64 rfl rfl rfl (inI (by omega) (by omega))) ?_
            first | refine lw_val rfl (run_assign (v := .int .i64 _) rfl) ?_
            refine lw_nil ?_
            exact ⟨(i + 1, s + ch.toNat % 128 * 2 ^ (7 * i)), by simp only; omega, ⟨by simp only; omega, hx3, by show vgetF (10 - (i + 1)) (i + 1) _ b = _; rw [show 10 - (i + 1) = 9 - i by omega]; exact hv2, hs⟩, ⟨rfl, rfl, trivial⟩, by repeat (first | exact Out.mix _ _ _ | refine Out.updo rfl ?_ | refine Out.upd rfl ?_ | refine Out.mixIn rfl ?_)⟩
  · intro h9
    have g9 := of_decide_eq_false h9
    refine cw_exit rfl ?_
    refine cw_seq ?_
    refine cw_region ?_
    first | refine lw_val rfl (run_assign (v := .int .u64 _) rfl) ?_
    first | refine lw_val rfl (run_assign (v := .int .i64 _) rfl) ?_
    first | refine lw_val rfl (run_assign (v := .int .i64 _) rfl) ?_
    refine lw_nil ?_
    refine cw_ret ?_
    refine res3 (v := .int .u64 _) (v2 := .int .i64 _) (v3 := .int .i64 _) rfl rfl rfl rfl ?_
    obtain rfl : i = 10 := by omega
    cases hv
    exact ⟨_, rfl, rfl, hs⟩
theorem rgetI_sl (hs : Mem g w L) {a : Option Addr} {m c : Nat} {b : List UInt8} (hr : Rd g L (.slice a m c) (bytesL b)) (hm : m = b.length) (hlen : b.length ≤ 1073741824) {k q : Nat} {z : Int} (hk : vgetI b = (k, z, q)) :
    Calls Tryd.prog 67 #[.slice a m c] w (Ret fun v w' => v = .tuple #[.int .i64 z, .int .i64 q, .int .i64 k] ∧ Mem g w' L) := by
  obtain ⟨k0, n, q0, hv⟩ : ∃ k n q, vget b = (k, n, q) := ⟨_, _, _, rfl⟩
  have hn := vget_lt hv
  simp only [vgetI, hv, Prod.mk.injEq] at hk
  obtain ⟨rfl, rfl, rfl⟩ := hk
  have hand : n &&& 1 = n % 2 := Nat.and_one_is_mod n
  refine calls_cw Tryd.func67 rfl rfl ?_
  skip
  refine cw_seq ?_
  refine cw_region ?_
  first | refine lw_val rfl (run_assign (v := .int .i64 _) rfl) ?_
  first | refine lw_val rfl (run_assign (v := .int .i64 _) rfl) ?_
  first | refine lw_val rfl (run_assign (v := .int .i64 _) rfl) ?_
  refine lw_nil ?_
  refine cw_seq ?_
  refine cw_region ?_
  first | refine lw_val rfl (run_move (v := .slice _ _ _) rfl) ?_
  refine lw_call rfl en65 (rget_sl hs hr hm hlen hv) ?_
  clear hs
  rintro _ w ⟨rfl, hs⟩
  first | refine lw_val rfl (run_move (v := .tuple _) rfl) ?_
  first | refine lw_val rfl (run_extract (v := .int .u64 _) rfl rfl) ?_
  first | refine lw_val rfl (run_extract (v := .int .i64 _) rfl rfl) ?_
  first | refine lw_val rfl (run_extract (v := .int .i64 _) rfl rfl) ?_
  first | refine lw_val rfl (run_assign (v := .int .u64 _) rfl) ?_
  first | refine lw_val rfl (run_assign (v := .int .i64 _) rfl) ?_
  first | refine lw_val rfl (run_assign (v := .int .i64 _) rfl) ?_
  refine lw_nil ?_
  refine cw_seq ?_
  refine cw_region ?_
  first | refine lw_val rfl (run_move (v := .int .u64 _) rfl) ?_
  refine lw_val rfl (run_shr rfl rfl (n := 1) (c := ((n / 2 : Nat) : Int)) rfl (by decide) (by omega)) ?_
  refine lw_val rfl (run_convIn Tryd.underlying27 Tryd.underlying2 rfl (c := ((n / 2 : Nat) : Int)) (wrap_i64 ⟨by omega, by omega⟩)) ?_
  first | refine lw_val rfl (run_move (v := .int .u64 _) rfl) ?_
  refine lw_val rfl (run_bits (v := .int .u64 ((n % 2 : Nat) : Int)) (by simp) rfl rfl (by rw [← hand, ← and_u64 n 1 hn (by decide)]; rfl)) ?_
  refine lw_val rfl (run_convIn Tryd.underlying27 Tryd.underlying2 rfl (c := ((n % 2 : Nat) : Int)) (wrap_i64 ⟨by omega, by omega⟩)) ?_
  refine lw_val rfl (run_neg64 rfl (c := -((n % 2 : Nat) : Int)) rfl (inI (by omega) (by omega))) ?_
  refine lw_val rfl (run_bits (v := .int .i64 (zag n)) (by simp) rfl rfl (by rw [← zag_bits n hn]; rfl)) ?_
  first | refine lw_val rfl (run_move (v := .int .i64 _) rfl) ?_
  first | refine lw_val rfl (run_move (v := .int .i64 _) rfl) ?_
  first | refine lw_val rfl (run_assign (v := .int .i64 _) rfl) ?_
  first | refine lw_val rfl (run_assign (v := .int .i64 _) rfl) ?_
  first | refine lw_val rfl (run_assign (v := .int .i64 _) rfl) ?_
  refine lw_nil ?_
  refine cw_ret ?_
  refine res3 (v := .int .i64 _) (v2 := .int .i64 _) (v3 := .int .i64 _) rfl rfl rfl rfl ?_
  exact ⟨_, rfl, rfl, hs⟩
/-! ### the reference's reader -/
def plB (k : Nat) : Bool := !decide (k = 0) && !decide (k = 101)
def plQ (st : Nat × Nat) : Nat := if plB st.2 then st.1 else 0
abbrev refR (rb : Nat) (v : Value) (st : Nat × Nat) : HP := cells rb [v, .int .i64 st.1, .int .i64 st.2, .bool (plB st.2), .int .i64 (plQ st)] 37
theorem plB_at {k : Nat} (h0 : k ≠ 0) (h1 : k ≠ 101) : plB k = true := by simp [plB, h0, h1]
theorem rfine_sl {rb : Nat} {v : Value} {st : Nat × Nat} (hs : Mem g w (refR rb v st :: L)) : Calls Tryd.prog 19 #[.pointer (some ⟨rb, 0, none⟩)] w (Ret fun v' w' => v' = .bool (decide (st.2 = 0)) ∧ Mem g w' (refR rb v st :: L)) := by
  refine calls_cw Tryd.func19 rfl rfl ?_
  skip
  refine cw_seq ?_
  refine cw_region ?_
  first | refine lw_val rfl (run_assign (v := .bool _) rfl) ?_
  refine lw_nil ?_
  refine cw_seq ?_
  refine cw_region ?_
  first | refine lw_val rfl (run_move (v := .pointer (some _)) rfl) ?_ | refine lw_val rfl (run_move (v := .pointer none) rfl) ?_
  refine lw_val rfl (run_nilCheckP rfl) ?_
  first | refine lw_val rfl (run_fieldAddr (o' := 2) Tryd.underlying37 rfl sz35 rfl rfl rfl) ?_ | refine lw_val rfl (run_fieldAddr Tryd.underlying37 rfl sz35 rfl rfl rfl) ?_
  first | refine lw_val rfl (run_fieldAddr (o' := 0) Tryd.underlying35 rfl sz3 rfl rfl rfl) ?_ | refine lw_val rfl (run_fieldAddr Tryd.underlying35 rfl sz3 rfl rfl rfl) ?_
  first | refine lw_val rfl (run_load Tryd.underlying3 rfl rfl (hs.cellAt 0 rfl rfl)) ?_ | refine lw_val rfl (run_load Tryd.underlying3 rfl rfl (hs.cellAt 1 rfl rfl)) ?_ | refine lw_val rfl (run_load Tryd.underlying3 rfl rfl (hs.cellAt 2 rfl rfl)) ?_ | refine lw_val rfl (run_load Tryd.underlying3 rfl rfl (hs.cellAt 3 rfl rfl)) ?_ | refine lw_val rfl (run_load Tryd.underlying3 rfl rfl (hs.cellAt 4 rfl rfl)) ?_ | refine lw_val rfl (run_load Tryd.underlying3 rfl rfl (hs.cellAt 5 rfl rfl)) ?_ | refine lw_val rfl (run_load Tryd.underlying3 rfl rfl (hs.cellAt 6 rfl rfl)) ?_ | refine lw_val rfl (run_load Tryd.underlying3 rfl rfl (hs.cellAt 7 rfl rfl)) ?_ | refine lw_val rfl (run_load Tryd.underlying3 rfl rfl (hs.cellAt 8 rfl rfl)) ?_ | refine lw_val rfl (run_load Tryd.underlying3 rfl rfl (hs.cellAt 9 rfl rfl)) ?_ | refine lw_val rfl (run_load Tryd.underlying3 rfl rfl (hs.cellAt 10 rfl rfl)) ?_ | refine lw_val rfl (run_load Tryd.underlying3 rfl rfl (hs.cellAt 11 rfl rfl)) ?_ | refine lw_val rfl (run_load Tryd.underlying3 rfl rfl (hs.cellAt 12 rfl rfl)) ?_ | refine lw_val rfl (run_load Tryd.underlying3 rfl rfl (hs.cellAt 13 rfl rfl)) ?_
  refine lw_val rfl (run_eqi rfl rfl) ?_
  first | refine lw_val rfl (run_assign (v := .bool _) rfl) ?_
  refine lw_nil ?_
  refine cw_ret ?_
  refine res1 (v := .bool _) rfl rfl ?_
  exact ⟨_, rfl, ret_b (decide_eq_decide.2 (by omega)), hs⟩
theorem rfail_sl {rb at_ k : Nat} {v : Value} (hk : k ≠ 0) (hs : Mem g w (refR rb v (at_, 0) :: L)) : Calls Tryd.prog 66 #[.pointer (some ⟨rb, 0, none⟩), .int .i64 k] w (Ret fun v' w' => v' = .tuple #[] ∧ Mem g w' (refR rb v (at_, k) :: L)) := by
  refine calls_cw Tryd.func66 rfl rfl ?_
  skip
  refine cw_seq ?_
  refine cw_seq ?_
  refine cw_region ?_
  first | refine lw_val rfl (run_move (v := .int .i64 _) rfl) ?_
  refine lw_val rfl (run_eqi rfl rfl) ?_
  refine lw_nil ?_
  refine cw_if rfl ?_ ?_
  · intro h5
    have g5 := of_decide_eq_true h5
    obtain rfl : k = 101 := by omega
    refine cw_seq ?_
    refine cw_region ?_
    first | refine lw_val rfl (run_move (v := .pointer (some _)) rfl) ?_ | refine lw_val rfl (run_move (v := .pointer none) rfl) ?_
    first | refine lw_val rfl (run_move (v := .int .i64 _) rfl) ?_
    refine lw_call rfl en82 (bare_sl hs 101) ?_
    clear hs
    rintro _ w ⟨rfl, hs⟩
    refine lw_val rfl (run_nilCheckP rfl) ?_
    first | refine lw_val rfl (run_fieldAddr (o' := 2) Tryd.underlying37 rfl sz35 rfl rfl rfl) ?_ | refine lw_val rfl (run_fieldAddr Tryd.underlying37 rfl sz35 rfl rfl rfl) ?_
    refine lw_storeMid hs 0 ([v, .int .i64 at_, .int .i64 101, .bool false, .int .i64 0]) rfl rfl rfl sz35 rfl rfl rfl ?_
    clear hs
    intro w hs
    try simp only [List.set_cons_succ, List.set_cons_zero] at hs
    refine lw_nil ?_
    refine cw_ret ?_
    refine res0  rfl ?_
    exact ⟨_, rfl, rfl, hs⟩
  · intro h5
    have g5 := of_decide_eq_false h5
    refine cw_skip ?_
    refine cw_region ?_
    first | refine lw_val rfl (run_move (v := .pointer (some _)) rfl) ?_ | refine lw_val rfl (run_move (v := .pointer none) rfl) ?_
    first | refine lw_val rfl (run_move (v := .int .i64 _) rfl) ?_
    first | refine lw_val rfl (run_move (v := .pointer (some _)) rfl) ?_ | refine lw_val rfl (run_move (v := .pointer none) rfl) ?_
    refine lw_val rfl (run_nilCheckP rfl) ?_
    first | refine lw_val rfl (run_fieldAddr (o' := 1) Tryd.underlying37 rfl sz3 rfl rfl rfl) ?_ | refine lw_val rfl (run_fieldAddr Tryd.underlying37 rfl sz3 rfl rfl rfl) ?_
    first | refine lw_val rfl (run_load Tryd.underlying3 rfl rfl (hs.cellAt 0 rfl rfl)) ?_ | refine lw_val rfl (run_load Tryd.underlying3 rfl rfl (hs.cellAt 1 rfl rfl)) ?_ | refine lw_val rfl (run_load Tryd.underlying3 rfl rfl (hs.cellAt 2 rfl rfl)) ?_ | refine lw_val rfl (run_load Tryd.underlying3 rfl rfl (hs.cellAt 3 rfl rfl)) ?_ | refine lw_val rfl (run_load Tryd.underlying3 rfl rfl (hs.cellAt 4 rfl rfl)) ?_ | refine lw_val rfl (run_load Tryd.underlying3 rfl rfl (hs.cellAt 5 rfl rfl)) ?_ | refine lw_val rfl (run_load Tryd.underlying3 rfl rfl (hs.cellAt 6 rfl rfl)) ?_ | refine lw_val rfl (run_load Tryd.underlying3 rfl rfl (hs.cellAt 7 rfl rfl)) ?_ | refine lw_val rfl (run_load Tryd.underlying3 rfl rfl (hs.cellAt 8 rfl rfl)) ?_ | refine lw_val rfl (run_load Tryd.underlying3 rfl rfl (hs.cellAt 9 rfl rfl)) ?_ | refine lw_val rfl (run_load Tryd.underlying3 rfl rfl (hs.cellAt 10 rfl rfl)) ?_ | refine lw_val rfl (run_load Tryd.underlying3 rfl rfl (hs.cellAt 11 rfl rfl)) ?_ | refine lw_val rfl (run_load Tryd.underlying3 rfl rfl (hs.cellAt 12 rfl rfl)) ?_ | refine lw_val rfl (run_load Tryd.underlying3 rfl rfl (hs.cellAt 13 rfl rfl)) ?_
    refine lw_call rfl en100 (placed_sl hs (c := k) (by omega) at_) ?_
    clear hs
    rintro _ w ⟨rfl, hs⟩
    refine lw_val rfl (run_nilCheckP rfl) ?_
    first | refine lw_val rfl (run_fieldAddr (o' := 2) Tryd.underlying37 rfl sz35 rfl rfl rfl) ?_ | refine lw_val rfl (run_fieldAddr Tryd.underlying37 rfl sz35 rfl rfl rfl) ?_
    refine lw_storeMid hs 0 ([v, .int .i64 at_, .int .i64 k, .bool true, .int .i64 at_]) rfl rfl rfl sz35 rfl rfl rfl ?_
    clear hs
    intro w hs
    try simp only [List.set_cons_succ, List.set_cons_zero] at hs
    refine lw_nil ?_
    refine res0  rfl ?_
    refine ⟨_, rfl, rfl, ?_⟩
    have h1 := plB_at hk (show k ≠ 101 by omega)
    simp only [refR, plQ, h1, if_true]
    exact hs
theorem rnum_sl {rb : Nat} {a : Option Addr} {m c : Nat} {b : List UInt8} {st : Nat × Nat} (hs : Mem g w (refR rb (.slice a m c) st :: L)) (hr : Rd g L (.slice a m c) (bytesL b)) (hm : m = b.length) (hl : st.1 ≤ b.length) (hlen : b.length ≤ 1073741824) {most n : Nat} {st2 : Nat × Nat} (hk : vnum most b st = (n, st2)) :
    Calls Tryd.prog 18 #[.pointer (some ⟨rb, 0, none⟩), .int .u64 most] w (Ret fun v w' => v = .int .u64 n ∧ st2.1 ≤ b.length ∧ Mem g w' (refR rb (.slice a m c) st2 :: L)) := by
  subst hm
  obtain ⟨at_, code⟩ := st
  by_cases hc0 : code = 0
  · subst hc0
    obtain ⟨k, x, q, hv⟩ : ∃ k x q, vget (b.drop at_) = (k, x, q) := ⟨_, _, _, rfl⟩
    have hcode := vgetF_code hv
    simp only at hl
    simp only [vnum, hv] at hk
    rw [if_neg (by decide)] at hk
    refine calls_cw Tryd.func18 rfl rfl ?_
    skip
    refine cw_seq ?_
    refine cw_region ?_
    first | refine lw_val rfl (run_assign (v := .int .u64 _) rfl) ?_
    refine lw_nil ?_
    refine cw_seq ?_
    refine cw_seq ?_
    refine cw_region ?_
    first | refine lw_val rfl (run_move (v := .pointer (some _)) rfl) ?_ | refine lw_val rfl (run_move (v := .pointer none) rfl) ?_
    refine lw_call rfl en19 (rfine_sl hs) ?_
    clear hs
    rintro _ w ⟨rfl, hs⟩
    refine lw_val rfl (run_not rfl) ?_
    refine lw_nil ?_
    refine cw_iff rfl (not_f (rfl)) ?_
    refine cw_skip ?_
    refine cw_seq ?_
    refine cw_drawS mixes hs ?_
    intro w tr hK
    replace hs := tr _ hs
    clear tr
    first | refine aw_take 0 rfl (by kernel_rfl) (by kernel_rfl) (by kernel_rfl) rfl (fun w hs => run_move (v := .pointer (some _)) rfl) hK ?_ | refine aw_take 0 rfl (by kernel_rfl) (by kernel_rfl) (by kernel_rfl) rfl (fun w hs => run_move (v := .pointer none) rfl) hK ?_
    refine aw_take 1 rfl (by kernel_rfl) (by kernel_rfl) (by kernel_rfl) rfl (fun w hs => run_nilCheckP rfl) hK ?_
    first | refine aw_take 2 rfl (by kernel_rfl) (by kernel_rfl) (by kernel_rfl) rfl (fun w hs => run_fieldAddr (o' := 0) Tryd.underlying37 rfl sz23 rfl rfl rfl) hK ?_ | refine aw_take 2 rfl (by kernel_rfl) (by kernel_rfl) (by kernel_rfl) rfl (fun w hs => run_fieldAddr Tryd.underlying37 rfl sz23 rfl rfl rfl) hK ?_
    first | refine aw_take 3 rfl (by kernel_rfl) (by kernel_rfl) (by kernel_rfl) rfl (fun w hs => run_load Tryd.underlying23 rfl rfl (hs.cellAt 0 rfl rfl)) hK ?_ | refine aw_take 3 rfl (by kernel_rfl) (by kernel_rfl) (by kernel_rfl) rfl (fun w hs => run_load Tryd.underlying23 rfl rfl (hs.cellAt 1 rfl rfl)) hK ?_ | refine aw_take 3 rfl (by kernel_rfl) (by kernel_rfl) (by kernel_rfl) rfl (fun w hs => run_load Tryd.underlying23 rfl rfl (hs.cellAt 2 rfl rfl)) hK ?_ | refine aw_take 3 rfl (by kernel_rfl) (by kernel_rfl) (by kernel_rfl) rfl (fun w hs => run_load Tryd.underlying23 rfl rfl (hs.cellAt 3 rfl rfl)) hK ?_ | refine aw_take 3 rfl (by kernel_rfl) (by kernel_rfl) (by kernel_rfl) rfl (fun w hs => run_load Tryd.underlying23 rfl rfl (hs.cellAt 4 rfl rfl)) hK ?_ | refine aw_take 3 rfl (by kernel_rfl) (by kernel_rfl) (by kernel_rfl) rfl (fun w hs => run_load Tryd.underlying23 rfl rfl (hs.cellAt 5 rfl rfl)) hK ?_ | refine aw_take 3 rfl (by kernel_rfl) (by kernel_rfl) (by kernel_rfl) rfl (fun w hs => run_load Tryd.underlying23 rfl rfl (hs.cellAt 6 rfl rfl)) hK ?_ | refine aw_take 3 rfl (by kernel_rfl) (by kernel_rfl) (by kernel_rfl) rfl (fun w hs => run_load Tryd.underlying23 rfl rfl (hs.cellAt 7 rfl rfl)) hK ?_ | refine aw_take 3 rfl (by kernel_rfl) (by kernel_rfl) (by kernel_rfl) rfl (fun w hs => run_load Tryd.underlying23 rfl rfl (hs.cellAt 8 rfl rfl)) hK ?_ | refine aw_take 3 rfl (by kernel_rfl) (by kernel_rfl) (by kernel_rfl) rfl (fun w hs => run_load Tryd.underlying23 rfl rfl (hs.cellAt 9 rfl rfl)) hK ?_ | refine aw_take 3 rfl (by kernel_rfl) (by kernel_rfl) (by kernel_rfl) rfl (fun w hs => run_load Tryd.underlying23 rfl rfl (hs.cellAt 10 rfl rfl)) hK ?_ | refine aw_take 3 rfl (by kernel_rfl) (by kernel_rfl) (by kernel_rfl) rfl (fun w hs => run_load Tryd.underlying23 rfl rfl (hs.cellAt 11 rfl rfl)) hK ?_ | refine aw_take 3 rfl (by kernel_rfl) (by kernel_rfl) (by kernel_rfl) rfl (fun w hs => run_load Tryd.underlying23 rfl rfl (hs.cellAt 12 rfl rfl)) hK ?_ | refine aw_take 3 rfl (by kernel_rfl) (by kernel_rfl) (by kernel_rfl) rfl (fun w hs => run_load Tryd.underlying23 rfl rfl (hs.cellAt 13 rfl rfl)) hK ?_
    first | refine aw_take 4 rfl (by kernel_rfl) (by kernel_rfl) (by kernel_rfl) rfl (fun w hs => run_move (v := .pointer (some _)) rfl) hK ?_ | refine aw_take 4 rfl (by kernel_rfl) (by kernel_rfl) (by kernel_rfl) rfl (fun w hs => run_move (v := .pointer none) rfl) hK ?_
    refine aw_take 5 rfl (by kernel_rfl) (by kernel_rfl) (by kernel_rfl) rfl (fun w hs => run_nilCheckP rfl) hK ?_
    first | refine aw_take 6 rfl (by kernel_rfl) (by kernel_rfl) (by kernel_rfl) rfl (fun w hs => run_fieldAddr (o' := 1) Tryd.underlying37 rfl sz3 rfl rfl rfl) hK ?_ | refine aw_take 6 rfl (by kernel_rfl) (by kernel_rfl) (by kernel_rfl) rfl (fun w hs => run_fieldAddr Tryd.underlying37 rfl sz3 rfl rfl rfl) hK ?_
    first | refine aw_take 7 rfl (by kernel_rfl) (by kernel_rfl) (by kernel_rfl) rfl (fun w hs => run_load Tryd.underlying3 rfl rfl (hs.cellAt 0 rfl rfl)) hK ?_ | refine aw_take 7 rfl (by kernel_rfl) (by kernel_rfl) (by kernel_rfl) rfl (fun w hs => run_load Tryd.underlying3 rfl rfl (hs.cellAt 1 rfl rfl)) hK ?_ | refine aw_take 7 rfl (by kernel_rfl) (by kernel_rfl) (by kernel_rfl) rfl (fun w hs => run_load Tryd.underlying3 rfl rfl (hs.cellAt 2 rfl rfl)) hK ?_ | refine aw_take 7 rfl (by kernel_rfl) (by kernel_rfl) (by kernel_rfl) rfl (fun w hs => run_load Tryd.underlying3 rfl rfl (hs.cellAt 3 rfl rfl)) hK ?_ | refine aw_take 7 rfl (by kernel_rfl) (by kernel_rfl) (by kernel_rfl) rfl (fun w hs => run_load Tryd.underlying3 rfl rfl (hs.cellAt 4 rfl rfl)) hK ?_ | refine aw_take 7 rfl (by kernel_rfl) (by kernel_rfl) (by kernel_rfl) rfl (fun w hs => run_load Tryd.underlying3 rfl rfl (hs.cellAt 5 rfl rfl)) hK ?_ | refine aw_take 7 rfl (by kernel_rfl) (by kernel_rfl) (by kernel_rfl) rfl (fun w hs => run_load Tryd.underlying3 rfl rfl (hs.cellAt 6 rfl rfl)) hK ?_ | refine aw_take 7 rfl (by kernel_rfl) (by kernel_rfl) (by kernel_rfl) rfl (fun w hs => run_load Tryd.underlying3 rfl rfl (hs.cellAt 7 rfl rfl)) hK ?_ | refine aw_take 7 rfl (by kernel_rfl) (by kernel_rfl) (by kernel_rfl) rfl (fun w hs => run_load Tryd.underlying3 rfl rfl (hs.cellAt 8 rfl rfl)) hK ?_ | refine aw_take 7 rfl (by kernel_rfl) (by kernel_rfl) (by kernel_rfl) rfl (fun w hs => run_load Tryd.underlying3 rfl rfl (hs.cellAt 9 rfl rfl)) hK ?_ | refine aw_take 7 rfl (by kernel_rfl) (by kernel_rfl) (by kernel_rfl) rfl (fun w hs => run_load Tryd.underlying3 rfl rfl (hs.cellAt 10 rfl rfl)) hK ?_ | refine aw_take 7 rfl (by kernel_rfl) (by kernel_rfl) (by kernel_rfl) rfl (fun w hs => run_load Tryd.underlying3 rfl rfl (hs.cellAt 11 rfl rfl)) hK ?_ | refine aw_take 7 rfl (by kernel_rfl) (by kernel_rfl) (by kernel_rfl) rfl (fun w hs => run_load Tryd.underlying3 rfl rfl (hs.cellAt 12 rfl rfl)) hK ?_ | refine aw_take 7 rfl (by kernel_rfl) (by kernel_rfl) (by kernel_rfl) rfl (fun w hs => run_load Tryd.underlying3 rfl rfl (hs.cellAt 13 rfl rfl)) hK ?_
    refine aw_take 8 rfl (by kernel_rfl) (by kernel_rfl) (by kernel_rfl) rfl (fun w hs => run_sliceFrom Tryd.underlying23 sz5 rfl rfl (lo := at_) rfl (by omega)) hK ?_
    refine aw_ready [9] (by kernel_rfl) (by simp) ?_
    refine ⟨⟨_, rfl, ?_⟩, trivial⟩
    refine lw_call rfl en65 (rget_sl hs (k := k) (n := x) (q := q) (b := (b.take b.length).drop at_) ((hr.cons).subB hl (Nat.le_refl _)) (by simp) (by simp; omega) (by rw [List.take_length]; exact hv)) ?_
    clear hs
    rintro _ w ⟨rfl, hs⟩
    clear hK
    have hK := hs
    refine lw_nil ⟨hK, ?_⟩
    first | refine aw_take 10 rfl (by kernel_rfl) (by kernel_rfl) (by kernel_rfl) rfl (fun w hs => run_move (v := .tuple _) rfl) hK ?_
    first | refine aw_take 11 rfl (by kernel_rfl) (by kernel_rfl) (by kernel_rfl) rfl (fun w hs => run_extract (v := .int .u64 _) rfl rfl) hK ?_
    first | refine aw_take 12 rfl (by kernel_rfl) (by kernel_rfl) (by kernel_rfl) rfl (fun w hs => run_extract (v := .int .i64 _) rfl rfl) hK ?_
    first | refine aw_take 13 rfl (by kernel_rfl) (by kernel_rfl) (by kernel_rfl) rfl (fun w hs => run_extract (v := .int .i64 _) rfl rfl) hK ?_
    first | refine aw_take 14 rfl (by kernel_rfl) (by kernel_rfl) (by kernel_rfl) rfl (fun w hs => run_assign (v := .int .u64 _) rfl) hK ?_
    first | refine aw_take 15 rfl (by kernel_rfl) (by kernel_rfl) (by kernel_rfl) rfl (fun w hs => run_assign (v := .int .i64 _) rfl) hK ?_
    first | refine aw_take 16 rfl (by kernel_rfl) (by kernel_rfl) (by kernel_rfl) rfl (fun w hs => run_assign (v := .int .i64 _) rfl) hK ?_
    refine aw_done (by kernel_rfl) ?_
    clear hK
    refine cw_seq ?_
    refine cw_seq ?_
    refine cw_region ?_
    first | refine lw_val rfl (run_move (v := .int .i64 _) rfl) ?_
    refine lw_val rfl (run_eqi rfl rfl) ?_
    first | refine lw_val rfl (run_move (v := .bool _) rfl) ?_
    refine lw_split (t := _) (d := 27) rfl ?_ ?_
    · intro h26
      have g26 := of_decide_eq_true h26
      have hz : k = 0 := by omega
      subst hz
      rw [if_neg (by decide)] at hk
      refine lw_on rfl rfl h26 ?_
      first | refine lw_val rfl (run_move (v := .int .u64 _) rfl) ?_
      refine lw_on rfl rfl h26 ?_
      first | refine lw_val rfl (run_move (v := .int .u64 _) rfl) ?_
      refine lw_on rfl rfl h26 ?_
      refine lw_val rfl (run_gtr rfl rfl) ?_
      first | refine lw_val rfl (run_pickT (v := .bool _) rfl h26 rfl) ?_
      refine lw_nil ?_
      refine cw_if rfl ?_ ?_
      · intro h30
        have g30 := of_decide_eq_true h30
        rw [if_pos (by omega)] at hk
        cases hk
        refine cw_region ?_
        first | refine lw_val rfl (run_assign (v := .int .i64 _) rfl) ?_
        refine lw_nil ?_
        refine cw_seq ?_
        refine cw_seq ?_
        refine cw_region ?_
        first | refine lw_val rfl (run_move (v := .int .i64 _) rfl) ?_
        refine lw_val rfl (run_nei rfl rfl) ?_
        refine lw_nil ?_
        refine cw_ift rfl (rfl) ?_
        refine cw_seq ?_
        refine cw_region ?_
        first | refine lw_val rfl (run_move (v := .pointer (some _)) rfl) ?_ | refine lw_val rfl (run_move (v := .pointer none) rfl) ?_
        first | refine lw_val rfl (run_move (v := .int .i64 _) rfl) ?_
        refine lw_call rfl en66 (rfail_sl (k := 105) (by decide) hs) ?_
        clear hs
        rintro _ w ⟨rfl, hs⟩
        refine lw_nil ?_
        refine cw_seq ?_
        refine cw_region ?_
        first | refine lw_val rfl (run_assign (v := .int .u64 _) rfl) ?_
        refine lw_nil ?_
        refine cw_ret ?_
        refine res1 (v := .int .u64 _) rfl rfl ?_
        exact ⟨_, rfl, rfl, hl, hs⟩
      · intro h30
        have g30 := of_decide_eq_false h30
        rw [if_neg (by omega)] at hk
        cases hk
        refine cw_skip ?_
        refine cw_seq ?_
        refine cw_seq ?_
        refine cw_region ?_
        first | refine lw_val rfl (run_move (v := .int .i64 _) rfl) ?_
        refine lw_val rfl (run_nei rfl rfl) ?_
        refine lw_nil ?_
        refine cw_iff rfl (rfl) ?_
        refine cw_skip ?_
        refine cw_seq ?_
        have hq := vgetF_q hv
        rw [List.length_drop] at hq
        refine cw_region ?_
        first | refine lw_val rfl (run_move (v := .pointer (some _)) rfl) ?_ | refine lw_val rfl (run_move (v := .pointer none) rfl) ?_
        first | refine lw_val rfl (run_move (v := .pointer (some _)) rfl) ?_ | refine lw_val rfl (run_move (v := .pointer none) rfl) ?_
        refine lw_val rfl (run_nilCheckP rfl) ?_
        first | refine lw_val rfl (run_fieldAddr (o' := 1) Tryd.underlying37 rfl sz3 rfl rfl rfl) ?_ | refine lw_val rfl (run_fieldAddr Tryd.underlying37 rfl sz3 rfl rfl rfl) ?_
        first | refine lw_val rfl (run_load Tryd.underlying3 rfl rfl (hs.cellAt 0 rfl rfl)) ?_ | refine lw_val rfl (run_load Tryd.underlying3 rfl rfl (hs.cellAt 1 rfl rfl)) ?_ | refine lw_val rfl (run_load Tryd.underlying3 rfl rfl (hs.cellAt 2 rfl rfl)) ?_ | refine lw_val rfl (run_load Tryd.underlying3 rfl rfl (hs.cellAt 3 rfl rfl)) ?_ | refine lw_val rfl (run_load Tryd.underlying3 rfl rfl (hs.cellAt 4 rfl rfl)) ?_ | refine lw_val rfl (run_load Tryd.underlying3 rfl rfl (hs.cellAt 5 rfl rfl)) ?_ | refine lw_val rfl (run_load Tryd.underlying3 rfl rfl (hs.cellAt 6 rfl rfl)) ?_ | refine lw_val rfl (run_load Tryd.underlying3 rfl rfl (hs.cellAt 7 rfl rfl)) ?_ | refine lw_val rfl (run_load Tryd.underlying3 rfl rfl (hs.cellAt 8 rfl rfl)) ?_ | refine lw_val rfl (run_load Tryd.underlying3 rfl rfl (hs.cellAt 9 rfl rfl)) ?_ | refine lw_val rfl (run_load Tryd.underlying3 rfl rfl (hs.cellAt 10 rfl rfl)) ?_ | refine lw_val rfl (run_load Tryd.underlying3 rfl rfl (hs.cellAt 11 rfl rfl)) ?_ | refine lw_val rfl (run_load Tryd.underlying3 rfl rfl (hs.cellAt 12 rfl rfl)) ?_ | refine lw_val rfl (run_load Tryd.underlying3 rfl rfl (hs.cellAt 13 rfl rfl)) ?_
        first | refine lw_val rfl (run_move (v := .int .i64 _) rfl) ?_
        refine lw_val rfl (run_add64 rfl rfl (c := ((at_ + q : Nat) : Int)) (by omega) (inI (by omega) (by omega))) ?_
        refine lw_val rfl (run_nilCheckP rfl) ?_
        first | refine lw_val rfl (run_fieldAddr (o' := 1) Tryd.underlying37 rfl sz3 rfl rfl rfl) ?_ | refine lw_val rfl (run_fieldAddr Tryd.underlying37 rfl sz3 rfl rfl rfl) ?_
        first | refine lw_store (v := .int .i64 _) hs 0 rfl sz3 rfl rfl rfl rfl ?_ | refine lw_store (v := .int .i64 _) hs 1 rfl sz3 rfl rfl rfl rfl ?_ | refine lw_store (v := .int .i64 _) hs 2 rfl sz3 rfl rfl rfl rfl ?_ | refine lw_store (v := .int .i64 _) hs 3 rfl sz3 rfl rfl rfl rfl ?_ | refine lw_store (v := .int .i64 _) hs 4 rfl sz3 rfl rfl rfl rfl ?_ | refine lw_store (v := .int .i64 _) hs 5 rfl sz3 rfl rfl rfl rfl ?_ | refine lw_store (v := .int .i64 _) hs 6 rfl sz3 rfl rfl rfl rfl ?_ | refine lw_store (v := .int .i64 _) hs 7 rfl sz3 rfl rfl rfl rfl ?_ | refine lw_store (v := .int .i64 _) hs 8 rfl sz3 rfl rfl rfl rfl ?_ | refine lw_store (v := .int .i64 _) hs 9 rfl sz3 rfl rfl rfl rfl ?_ | refine lw_store (v := .int .i64 _) hs 10 rfl sz3 rfl rfl rfl rfl ?_ | refine lw_store (v := .int .i64 _) hs 11 rfl sz3 rfl rfl rfl rfl ?_ | refine lw_store (v := .int .i64 _) hs 12 rfl sz3 rfl rfl rfl rfl ?_ | refine lw_store (v := .int .i64 _) hs 13 rfl sz3 rfl rfl rfl rfl ?_
        clear hs
        intro w hs
        try simp only [List.set_cons_succ, List.set_cons_zero] at hs
        refine lw_nil ?_
        refine cw_seq ?_
        refine cw_region ?_
        first | refine lw_val rfl (run_move (v := .int .u64 _) rfl) ?_
        first | refine lw_val rfl (run_assign (v := .int .u64 _) rfl) ?_
        refine lw_nil ?_
        refine cw_ret ?_
        refine res1 (v := .int .u64 _) rfl rfl ?_
        exact ⟨_, rfl, rfl, by simp only; omega, hs⟩
    · intro h26
      have g26 := of_decide_eq_false h26
      have hz : k ≠ 0 := by omega
      rw [if_pos hz] at hk
      cases hk
      refine lw_off rfl rfl rfl h26 ?_
      refine lw_off rfl rfl rfl h26 ?_
      refine lw_off rfl rfl rfl h26 ?_
      first | refine lw_val rfl (run_pickF (v := .bool _) rfl h26 rfl) ?_
      refine lw_nil ?_
      refine cw_iff rfl rfl ?_
      refine cw_skip ?_
      refine cw_seq ?_
      refine cw_seq ?_
      refine cw_region ?_
      first | refine lw_val rfl (run_move (v := .int .i64 _) rfl) ?_
      refine lw_val rfl (run_nei rfl rfl) ?_
      refine lw_nil ?_
      refine cw_ift rfl (by rw [decide_eq_false (by omega)]; rfl) ?_
      refine cw_seq ?_
      refine cw_region ?_
      first | refine lw_val rfl (run_move (v := .pointer (some _)) rfl) ?_ | refine lw_val rfl (run_move (v := .pointer none) rfl) ?_
      first | refine lw_val rfl (run_move (v := .int .i64 _) rfl) ?_
      refine lw_call rfl en66 (rfail_sl hz hs) ?_
      clear hs
      rintro _ w ⟨rfl, hs⟩
      refine lw_nil ?_
      refine cw_seq ?_
      refine cw_region ?_
      first | refine lw_val rfl (run_assign (v := .int .u64 _) rfl) ?_
      refine lw_nil ?_
      refine cw_ret ?_
      refine res1 (v := .int .u64 _) rfl rfl ?_
      exact ⟨_, rfl, rfl, hl, hs⟩
  · simp only [vnum] at hk
    rw [if_pos hc0] at hk
    cases hk
    refine calls_cw Tryd.func18 rfl rfl ?_
    skip
    refine cw_seq ?_
    refine cw_region ?_
    first | refine lw_val rfl (run_assign (v := .int .u64 _) rfl) ?_
    refine lw_nil ?_
    refine cw_seq ?_
    refine cw_seq ?_
    refine cw_region ?_
    first | refine lw_val rfl (run_move (v := .pointer (some _)) rfl) ?_ | refine lw_val rfl (run_move (v := .pointer none) rfl) ?_
    refine lw_call rfl en19 (rfine_sl hs) ?_
    clear hs
    rintro _ w ⟨rfl, hs⟩
    refine lw_val rfl (run_not rfl) ?_
    refine lw_nil ?_
    refine cw_ift rfl (not_t (decide_eq_false hc0)) ?_
    refine cw_seq ?_
    refine cw_region ?_
    first | refine lw_val rfl (run_assign (v := .int .u64 _) rfl) ?_
    refine lw_nil ?_
    refine cw_ret ?_
    refine res1 (v := .int .u64 _) rfl rfl ?_
    exact ⟨_, rfl, rfl, hl, hs⟩
theorem rint_sl {rb : Nat} {a : Option Addr} {m c : Nat} {b : List UInt8} {st : Nat × Nat} (hs : Mem g w (refR rb (.slice a m c) st :: L)) (hr : Rd g L (.slice a m c) (bytesL b)) (hm : m = b.length) (hl : st.1 ≤ b.length) (hlen : b.length ≤ 1073741824) {z : Int} {st2 : Nat × Nat} (hk : vintS b st = (z, st2)) :
    Calls Tryd.prog 20 #[.pointer (some ⟨rb, 0, none⟩), .int .i64 (-9223372036854775808), .int .i64 9223372036854775807] w (Ret fun v w' => v = .int .i64 z ∧ st2.1 ≤ b.length ∧ Mem g w' (refR rb (.slice a m c) st2 :: L)) := by
  subst hm
  obtain ⟨at_, code⟩ := st
  by_cases hc0 : code = 0
  · subst hc0
    obtain ⟨k, x, q, hv⟩ : ∃ k x q, vget (b.drop at_) = (k, x, q) := ⟨_, _, _, rfl⟩
    have hcode := vgetF_code hv
    have hxl := vget_lt hv
    have hvI : vgetI (b.drop at_) = (k, zag x, q) := by simp [vgetI, hv]
    have hzl : InI64 (zag x) := by unfold zag; split <;> exact ⟨by omega, by omega⟩
    obtain ⟨hz1, hz2⟩ := id hzl
    simp only at hl
    simp only [vintS, hvI] at hk
    rw [if_neg (by decide)] at hk
    refine calls_cw Tryd.func20 rfl rfl ?_
    skip
    refine cw_seq ?_
    refine cw_region ?_
    first | refine lw_val rfl (run_assign (v := .int .i64 _) rfl) ?_
    refine lw_nil ?_
    refine cw_seq ?_
    refine cw_seq ?_
    refine cw_region ?_
    first | refine lw_val rfl (run_move (v := .pointer (some _)) rfl) ?_ | refine lw_val rfl (run_move (v := .pointer none) rfl) ?_
    refine lw_call rfl en19 (rfine_sl hs) ?_
    clear hs
    rintro _ w ⟨rfl, hs⟩
    refine lw_val rfl (run_not rfl) ?_
    refine lw_nil ?_
    refine cw_iff rfl (not_f (rfl)) ?_
    refine cw_skip ?_
    refine cw_seq ?_
    refine cw_drawS mixes hs ?_
    intro w tr hK
    replace hs := tr _ hs
    clear tr
    first | refine aw_take 0 rfl (by kernel_rfl) (by kernel_rfl) (by kernel_rfl) rfl (fun w hs => run_move (v := .pointer (some _)) rfl) hK ?_ | refine aw_take 0 rfl (by kernel_rfl) (by kernel_rfl) (by kernel_rfl) rfl (fun w hs => run_move (v := .pointer none) rfl) hK ?_
    refine aw_take 1 rfl (by kernel_rfl) (by kernel_rfl) (by kernel_rfl) rfl (fun w hs => run_nilCheckP rfl) hK ?_
    first | refine aw_take 2 rfl (by kernel_rfl) (by kernel_rfl) (by kernel_rfl) rfl (fun w hs => run_fieldAddr (o' := 0) Tryd.underlying37 rfl sz23 rfl rfl rfl) hK ?_ | refine aw_take 2 rfl (by kernel_rfl) (by kernel_rfl) (by kernel_rfl) rfl (fun w hs => run_fieldAddr Tryd.underlying37 rfl sz23 rfl rfl rfl) hK ?_
    first | refine aw_take 3 rfl (by kernel_rfl) (by kernel_rfl) (by kernel_rfl) rfl (fun w hs => run_load Tryd.underlying23 rfl rfl (hs.cellAt 0 rfl rfl)) hK ?_ | refine aw_take 3 rfl (by kernel_rfl) (by kernel_rfl) (by kernel_rfl) rfl (fun w hs => run_load Tryd.underlying23 rfl rfl (hs.cellAt 1 rfl rfl)) hK ?_ | refine aw_take 3 rfl (by kernel_rfl) (by kernel_rfl) (by kernel_rfl) rfl (fun w hs => run_load Tryd.underlying23 rfl rfl (hs.cellAt 2 rfl rfl)) hK ?_ | refine aw_take 3 rfl (by kernel_rfl) (by kernel_rfl) (by kernel_rfl) rfl (fun w hs => run_load Tryd.underlying23 rfl rfl (hs.cellAt 3 rfl rfl)) hK ?_ | refine aw_take 3 rfl (by kernel_rfl) (by kernel_rfl) (by kernel_rfl) rfl (fun w hs => run_load Tryd.underlying23 rfl rfl (hs.cellAt 4 rfl rfl)) hK ?_ | refine aw_take 3 rfl (by kernel_rfl) (by kernel_rfl) (by kernel_rfl) rfl (fun w hs => run_load Tryd.underlying23 rfl rfl (hs.cellAt 5 rfl rfl)) hK ?_ | refine aw_take 3 rfl (by kernel_rfl) (by kernel_rfl) (by kernel_rfl) rfl (fun w hs => run_load Tryd.underlying23 rfl rfl (hs.cellAt 6 rfl rfl)) hK ?_ | refine aw_take 3 rfl (by kernel_rfl) (by kernel_rfl) (by kernel_rfl) rfl (fun w hs => run_load Tryd.underlying23 rfl rfl (hs.cellAt 7 rfl rfl)) hK ?_ | refine aw_take 3 rfl (by kernel_rfl) (by kernel_rfl) (by kernel_rfl) rfl (fun w hs => run_load Tryd.underlying23 rfl rfl (hs.cellAt 8 rfl rfl)) hK ?_ | refine aw_take 3 rfl (by kernel_rfl) (by kernel_rfl) (by kernel_rfl) rfl (fun w hs => run_load Tryd.underlying23 rfl rfl (hs.cellAt 9 rfl rfl)) hK ?_ | refine aw_take 3 rfl (by kernel_rfl) (by kernel_rfl) (by kernel_rfl) rfl (fun w hs => run_load Tryd.underlying23 rfl rfl (hs.cellAt 10 rfl rfl)) hK ?_ | refine aw_take 3 rfl (by kernel_rfl) (by kernel_rfl) (by kernel_rfl) rfl (fun w hs => run_load Tryd.underlying23 rfl rfl (hs.cellAt 11 rfl rfl)) hK ?_ | refine aw_take 3 rfl (by kernel_rfl) (by kernel_rfl) (by kernel_rfl) rfl (fun w hs => run_load Tryd.underlying23 rfl rfl (hs.cellAt 12 rfl rfl)) hK ?_ | refine aw_take 3 rfl (by kernel_rfl) (by kernel_rfl) (by kernel_rfl) rfl (fun w hs => run_load Tryd.underlying23 rfl rfl (hs.cellAt 13 rfl rfl)) hK ?_
    first | refine aw_take 4 rfl (by kernel_rfl) (by kernel_rfl) (by kernel_rfl) rfl (fun w hs => run_move (v := .pointer (some _)) rfl) hK ?_ | refine aw_take 4 rfl (by kernel_rfl) (by kernel_rfl) (by kernel_rfl) rfl (fun w hs => run_move (v := .pointer none) rfl) hK ?_
    refine aw_take 5 rfl (by kernel_rfl) (by kernel_rfl) (by kernel_rfl) rfl (fun w hs => run_nilCheckP rfl) hK ?_
    first | refine aw_take 6 rfl (by kernel_rfl) (by kernel_rfl) (by kernel_rfl) rfl (fun w hs => run_fieldAddr (o' := 1) Tryd.underlying37 rfl sz3 rfl rfl rfl) hK ?_ | refine aw_take 6 rfl (by kernel_rfl) (by kernel_rfl) (by kernel_rfl) rfl (fun w hs => run_fieldAddr Tryd.underlying37 rfl sz3 rfl rfl rfl) hK ?_
    first | refine aw_take 7 rfl (by kernel_rfl) (by kernel_rfl) (by kernel_rfl) rfl (fun w hs => run_load Tryd.underlying3 rfl rfl (hs.cellAt 0 rfl rfl)) hK ?_ | refine aw_take 7 rfl (by kernel_rfl) (by kernel_rfl) (by kernel_rfl) rfl (fun w hs => run_load Tryd.underlying3 rfl rfl (hs.cellAt 1 rfl rfl)) hK ?_ | refine aw_take 7 rfl (by kernel_rfl) (by kernel_rfl) (by kernel_rfl) rfl (fun w hs => run_load Tryd.underlying3 rfl rfl (hs.cellAt 2 rfl rfl)) hK ?_ | refine aw_take 7 rfl (by kernel_rfl) (by kernel_rfl) (by kernel_rfl) rfl (fun w hs => run_load Tryd.underlying3 rfl rfl (hs.cellAt 3 rfl rfl)) hK ?_ | refine aw_take 7 rfl (by kernel_rfl) (by kernel_rfl) (by kernel_rfl) rfl (fun w hs => run_load Tryd.underlying3 rfl rfl (hs.cellAt 4 rfl rfl)) hK ?_ | refine aw_take 7 rfl (by kernel_rfl) (by kernel_rfl) (by kernel_rfl) rfl (fun w hs => run_load Tryd.underlying3 rfl rfl (hs.cellAt 5 rfl rfl)) hK ?_ | refine aw_take 7 rfl (by kernel_rfl) (by kernel_rfl) (by kernel_rfl) rfl (fun w hs => run_load Tryd.underlying3 rfl rfl (hs.cellAt 6 rfl rfl)) hK ?_ | refine aw_take 7 rfl (by kernel_rfl) (by kernel_rfl) (by kernel_rfl) rfl (fun w hs => run_load Tryd.underlying3 rfl rfl (hs.cellAt 7 rfl rfl)) hK ?_ | refine aw_take 7 rfl (by kernel_rfl) (by kernel_rfl) (by kernel_rfl) rfl (fun w hs => run_load Tryd.underlying3 rfl rfl (hs.cellAt 8 rfl rfl)) hK ?_ | refine aw_take 7 rfl (by kernel_rfl) (by kernel_rfl) (by kernel_rfl) rfl (fun w hs => run_load Tryd.underlying3 rfl rfl (hs.cellAt 9 rfl rfl)) hK ?_ | refine aw_take 7 rfl (by kernel_rfl) (by kernel_rfl) (by kernel_rfl) rfl (fun w hs => run_load Tryd.underlying3 rfl rfl (hs.cellAt 10 rfl rfl)) hK ?_ | refine aw_take 7 rfl (by kernel_rfl) (by kernel_rfl) (by kernel_rfl) rfl (fun w hs => run_load Tryd.underlying3 rfl rfl (hs.cellAt 11 rfl rfl)) hK ?_ | refine aw_take 7 rfl (by kernel_rfl) (by kernel_rfl) (by kernel_rfl) rfl (fun w hs => run_load Tryd.underlying3 rfl rfl (hs.cellAt 12 rfl rfl)) hK ?_ | refine aw_take 7 rfl (by kernel_rfl) (by kernel_rfl) (by kernel_rfl) rfl (fun w hs => run_load Tryd.underlying3 rfl rfl (hs.cellAt 13 rfl rfl)) hK ?_
    refine aw_take 8 rfl (by kernel_rfl) (by kernel_rfl) (by kernel_rfl) rfl (fun w hs => run_sliceFrom Tryd.underlying23 sz5 rfl rfl (lo := at_) rfl (by omega)) hK ?_
    refine aw_ready [9] (by kernel_rfl) (by simp) ?_
    refine ⟨⟨_, rfl, ?_⟩, trivial⟩
    refine lw_call rfl en67 (rgetI_sl hs (k := k) (z := zag x) (q := q) (b := (b.take b.length).drop at_) ((hr.cons).subB hl (Nat.le_refl _)) (by simp) (by simp; omega) (by rw [List.take_length]; exact hvI)) ?_
    clear hs
    rintro _ w ⟨rfl, hs⟩
    clear hK
    have hK := hs
    refine lw_nil ⟨hK, ?_⟩
    first | refine aw_take 10 rfl (by kernel_rfl) (by kernel_rfl) (by kernel_rfl) rfl (fun w hs => run_move (v := .tuple _) rfl) hK ?_
    first | refine aw_take 11 rfl (by kernel_rfl) (by kernel_rfl) (by kernel_rfl) rfl (fun w hs => run_extract (v := .int .i64 _) rfl rfl) hK ?_
    first | refine aw_take 12 rfl (by kernel_rfl) (by kernel_rfl) (by kernel_rfl) rfl (fun w hs => run_extract (v := .int .i64 _) rfl rfl) hK ?_
    first | refine aw_take 13 rfl (by kernel_rfl) (by kernel_rfl) (by kernel_rfl) rfl (fun w hs => run_extract (v := .int .i64 _) rfl rfl) hK ?_
    first | refine aw_take 14 rfl (by kernel_rfl) (by kernel_rfl) (by kernel_rfl) rfl (fun w hs => run_assign (v := .int .i64 _) rfl) hK ?_
    first | refine aw_take 15 rfl (by kernel_rfl) (by kernel_rfl) (by kernel_rfl) rfl (fun w hs => run_assign (v := .int .i64 _) rfl) hK ?_
    first | refine aw_take 16 rfl (by kernel_rfl) (by kernel_rfl) (by kernel_rfl) rfl (fun w hs => run_assign (v := .int .i64 _) rfl) hK ?_
    refine aw_done (by kernel_rfl) ?_
    clear hK
    refine cw_seq ?_
    refine cw_seq ?_
    refine cw_region ?_
    first | refine lw_val rfl (run_move (v := .int .i64 _) rfl) ?_
    refine lw_val rfl (run_eqi rfl rfl) ?_
    first | refine lw_val rfl (run_move (v := .bool _) rfl) ?_
    refine lw_split (t := _) (d := 29) rfl ?_ ?_
    · intro h28
      have g28 := of_decide_eq_true h28
      have hz : k = 0 := by omega
      subst hz
      rw [if_neg (by decide)] at hk
      cases hk
      refine lw_on rfl rfl h28 ?_
      first | refine lw_val rfl (run_move (v := .int .i64 _) rfl) ?_
      refine lw_on rfl rfl h28 ?_
      first | refine lw_val rfl (run_move (v := .int .i64 _) rfl) ?_
      refine lw_on rfl rfl h28 ?_
      refine lw_val rfl (run_lss rfl rfl) ?_
      refine lw_on rfl rfl h28 ?_
      first | refine lw_val rfl (run_move (v := .bool _) rfl) ?_
      refine lw_on rfl rfl (decide_eq_false (by omega)) ?_
      first | refine lw_val rfl (run_move (v := .int .i64 _) rfl) ?_
      refine lw_on rfl rfl (decide_eq_false (by omega)) ?_
      first | refine lw_val rfl (run_move (v := .int .i64 _) rfl) ?_
      refine lw_on rfl rfl (decide_eq_false (by omega)) ?_
      refine lw_val rfl (run_gtr rfl rfl) ?_
      refine lw_on rfl rfl h28 ?_
      first | refine lw_val rfl (run_pickF (v := .bool _) rfl (decide_eq_false (by omega)) rfl) ?_
      first | refine lw_val rfl (run_pickT (v := .bool _) rfl h28 rfl) ?_
      refine lw_nil ?_
      refine cw_iff rfl (decide_eq_false (by omega)) ?_
      refine cw_skip ?_
      refine cw_seq ?_
      refine cw_seq ?_
      refine cw_region ?_
      first | refine lw_val rfl (run_move (v := .int .i64 _) rfl) ?_
      refine lw_val rfl (run_nei rfl rfl) ?_
      refine lw_nil ?_
      refine cw_iff rfl (rfl) ?_
      refine cw_skip ?_
      refine cw_seq ?_
      have hq := vgetF_q hv
      rw [List.length_drop] at hq
      refine cw_region ?_
      first | refine lw_val rfl (run_move (v := .pointer (some _)) rfl) ?_ | refine lw_val rfl (run_move (v := .pointer none) rfl) ?_
      first | refine lw_val rfl (run_move (v := .pointer (some _)) rfl) ?_ | refine lw_val rfl (run_move (v := .pointer none) rfl) ?_
      refine lw_val rfl (run_nilCheckP rfl) ?_
      first | refine lw_val rfl (run_fieldAddr (o' := 1) Tryd.underlying37 rfl sz3 rfl rfl rfl) ?_ | refine lw_val rfl (run_fieldAddr Tryd.underlying37 rfl sz3 rfl rfl rfl) ?_
      first | refine lw_val rfl (run_load Tryd.underlying3 rfl rfl (hs.cellAt 0 rfl rfl)) ?_ | refine lw_val rfl (run_load Tryd.underlying3 rfl rfl (hs.cellAt 1 rfl rfl)) ?_ | refine lw_val rfl (run_load Tryd.underlying3 rfl rfl (hs.cellAt 2 rfl rfl)) ?_ | refine lw_val rfl (run_load Tryd.underlying3 rfl rfl (hs.cellAt 3 rfl rfl)) ?_ | refine lw_val rfl (run_load Tryd.underlying3 rfl rfl (hs.cellAt 4 rfl rfl)) ?_ | refine lw_val rfl (run_load Tryd.underlying3 rfl rfl (hs.cellAt 5 rfl rfl)) ?_ | refine lw_val rfl (run_load Tryd.underlying3 rfl rfl (hs.cellAt 6 rfl rfl)) ?_ | refine lw_val rfl (run_load Tryd.underlying3 rfl rfl (hs.cellAt 7 rfl rfl)) ?_ | refine lw_val rfl (run_load Tryd.underlying3 rfl rfl (hs.cellAt 8 rfl rfl)) ?_ | refine lw_val rfl (run_load Tryd.underlying3 rfl rfl (hs.cellAt 9 rfl rfl)) ?_ | refine lw_val rfl (run_load Tryd.underlying3 rfl rfl (hs.cellAt 10 rfl rfl)) ?_ | refine lw_val rfl (run_load Tryd.underlying3 rfl rfl (hs.cellAt 11 rfl rfl)) ?_ | refine lw_val rfl (run_load Tryd.underlying3 rfl rfl (hs.cellAt 12 rfl rfl)) ?_ | refine lw_val rfl (run_load Tryd.underlying3 rfl rfl (hs.cellAt 13 rfl rfl)) ?_
      first | refine lw_val rfl (run_move (v := .int .i64 _) rfl) ?_
      refine lw_val rfl (run_add64 rfl rfl (c := ((at_ + q : Nat) : Int)) (by omega) (inI (by omega) (by omega))) ?_
      refine lw_val rfl (run_nilCheckP rfl) ?_
      first | refine lw_val rfl (run_fieldAddr (o' := 1) Tryd.underlying37 rfl sz3 rfl rfl rfl) ?_ | refine lw_val rfl (run_fieldAddr Tryd.underlying37 rfl sz3 rfl rfl rfl) ?_
      first | refine lw_store (v := .int .i64 _) hs 0 rfl sz3 rfl rfl rfl rfl ?_ | refine lw_store (v := .int .i64 _) hs 1 rfl sz3 rfl rfl rfl rfl ?_ | refine lw_store (v := .int .i64 _) hs 2 rfl sz3 rfl rfl rfl rfl ?_ | refine lw_store (v := .int .i64 _) hs 3 rfl sz3 rfl rfl rfl rfl ?_ | refine lw_store (v := .int .i64 _) hs 4 rfl sz3 rfl rfl rfl rfl ?_ | refine lw_store (v := .int .i64 _) hs 5 rfl sz3 rfl rfl rfl rfl ?_ | refine lw_store (v := .int .i64 _) hs 6 rfl sz3 rfl rfl rfl rfl ?_ | refine lw_store (v := .int .i64 _) hs 7 rfl sz3 rfl rfl rfl rfl ?_ | refine lw_store (v := .int .i64 _) hs 8 rfl sz3 rfl rfl rfl rfl ?_ | refine lw_store (v := .int .i64 _) hs 9 rfl sz3 rfl rfl rfl rfl ?_ | refine lw_store (v := .int .i64 _) hs 10 rfl sz3 rfl rfl rfl rfl ?_ | refine lw_store (v := .int .i64 _) hs 11 rfl sz3 rfl rfl rfl rfl ?_ | refine lw_store (v := .int .i64 _) hs 12 rfl sz3 rfl rfl rfl rfl ?_ | refine lw_store (v := .int .i64 _) hs 13 rfl sz3 rfl rfl rfl rfl ?_
      clear hs
      intro w hs
      try simp only [List.set_cons_succ, List.set_cons_zero] at hs
      refine lw_nil ?_
      refine cw_seq ?_
      refine cw_region ?_
      first | refine lw_val rfl (run_move (v := .int .i64 _) rfl) ?_
      first | refine lw_val rfl (run_assign (v := .int .i64 _) rfl) ?_
      refine lw_nil ?_
      refine cw_ret ?_
      refine res1 (v := .int .i64 _) rfl rfl ?_
      exact ⟨_, rfl, rfl, by simp only; omega, hs⟩
    · intro h28
      have g28 := of_decide_eq_false h28
      have hz : k ≠ 0 := by omega
      rw [if_pos hz] at hk
      cases hk
      refine lw_off rfl rfl rfl h28 ?_
      refine lw_off rfl rfl rfl h28 ?_
      refine lw_off rfl rfl rfl h28 ?_
      refine lw_off rfl rfl rfl h28 ?_
      refine lw_offU rfl rfl rfl ?_
      refine lw_offU rfl rfl rfl ?_
      refine lw_offU rfl rfl rfl ?_
      refine lw_off rfl rfl rfl h28 ?_
      first | refine lw_val rfl (run_pickF (v := .bool _) rfl h28 rfl) ?_
      refine lw_nil ?_
      refine cw_iff rfl rfl ?_
      refine cw_skip ?_
      refine cw_seq ?_
      refine cw_seq ?_
      refine cw_region ?_
      first | refine lw_val rfl (run_move (v := .int .i64 _) rfl) ?_
      refine lw_val rfl (run_nei rfl rfl) ?_
      refine lw_nil ?_
      refine cw_ift rfl (by rw [decide_eq_false (by omega)]; rfl) ?_
      refine cw_seq ?_
      refine cw_region ?_
      first | refine lw_val rfl (run_move (v := .pointer (some _)) rfl) ?_ | refine lw_val rfl (run_move (v := .pointer none) rfl) ?_
      first | refine lw_val rfl (run_move (v := .int .i64 _) rfl) ?_
      refine lw_call rfl en66 (rfail_sl hz hs) ?_
      clear hs
      rintro _ w ⟨rfl, hs⟩
      refine lw_nil ?_
      refine cw_seq ?_
      refine cw_region ?_
      first | refine lw_val rfl (run_assign (v := .int .i64 _) rfl) ?_
      refine lw_nil ?_
      refine cw_ret ?_
      refine res1 (v := .int .i64 _) rfl rfl ?_
      exact ⟨_, rfl, rfl, hl, hs⟩
  · simp only [vintS] at hk
    rw [if_pos hc0] at hk
    cases hk
    refine calls_cw Tryd.func20 rfl rfl ?_
    skip
    refine cw_seq ?_
    refine cw_region ?_
    first | refine lw_val rfl (run_assign (v := .int .i64 _) rfl) ?_
    refine lw_nil ?_
    refine cw_seq ?_
    refine cw_seq ?_
    refine cw_region ?_
    first | refine lw_val rfl (run_move (v := .pointer (some _)) rfl) ?_ | refine lw_val rfl (run_move (v := .pointer none) rfl) ?_
    refine lw_call rfl en19 (rfine_sl hs) ?_
    clear hs
    rintro _ w ⟨rfl, hs⟩
    refine lw_val rfl (run_not rfl) ?_
    refine lw_nil ?_
    refine cw_ift rfl (not_t (decide_eq_false hc0)) ?_
    refine cw_seq ?_
    refine cw_region ?_
    first | refine lw_val rfl (run_assign (v := .int .i64 _) rfl) ?_
    refine lw_nil ?_
    refine cw_ret ?_
    refine res1 (v := .int .i64 _) rfl rfl ?_
    exact ⟨_, rfl, rfl, hl, hs⟩
def overS (b : List UInt8) (k : Nat) (st : Nat × Nat) : Nat × Nat := if st.2 = 0 ∧ st.1 < b.length then (st.1, k) else st
theorem rover_sl {rb k : Nat} {a : Option Addr} {m c : Nat} {b : List UInt8} {st : Nat × Nat} (hk : k ≠ 0) (hs : Mem g w (refR rb (.slice a m c) st :: L)) (hm : m = b.length) : Calls Tryd.prog 21 #[.pointer (some ⟨rb, 0, none⟩), .int .i64 k] w (Ret fun v w' => v = .tuple #[] ∧ Mem g w' (refR rb (.slice a m c) (overS b k st) :: L)) := by
  subst hm
  obtain ⟨at_, code⟩ := st
  refine calls_cw Tryd.func21 rfl rfl ?_
  skip
  refine cw_seq ?_
  refine cw_drawS mixes hs ?_
  intro w tr hK
  replace hs := tr _ hs
  clear tr
  first | refine aw_take 0 rfl (by kernel_rfl) (by kernel_rfl) (by kernel_rfl) rfl (fun w hs => run_move (v := .pointer (some _)) rfl) hK ?_ | refine aw_take 0 rfl (by kernel_rfl) (by kernel_rfl) (by kernel_rfl) rfl (fun w hs => run_move (v := .pointer none) rfl) hK ?_
  refine aw_ready [1] (by kernel_rfl) (by simp) ?_
  refine ⟨⟨_, rfl, ?_⟩, trivial⟩
  refine lw_call rfl en19 (rfine_sl hs) ?_
  clear hs
  rintro _ w ⟨rfl, hs⟩
  clear hK
  have hK := hs
  refine lw_nil ⟨hK, ?_⟩
  first | refine aw_take 2 rfl (by kernel_rfl) (by kernel_rfl) (by kernel_rfl) rfl (fun w hs => run_move (v := .bool _) rfl) hK ?_
  refine aw_split (t := _) (d := 6) rfl ?_ ?_
  · intro h5
    obtain rfl : code = 0 := by simpa using h5
    first | refine aw_takeOn 3 rfl (by kernel_rfl) (by kernel_rfl) (by kernel_rfl) rfl rfl rfl h5 (fun w hs => run_move (v := .pointer (some _)) rfl) hK ?_ | refine aw_takeOn 3 rfl (by kernel_rfl) (by kernel_rfl) (by kernel_rfl) rfl rfl rfl h5 (fun w hs => run_move (v := .pointer none) rfl) hK ?_
    refine aw_takeOn 4 rfl (by kernel_rfl) (by kernel_rfl) (by kernel_rfl) rfl rfl rfl h5 (fun w hs => run_nilCheckP rfl) hK ?_
    first | refine aw_takeOn 5 rfl (by kernel_rfl) (by kernel_rfl) (by kernel_rfl) rfl rfl rfl h5 (fun w hs => run_fieldAddr (o' := 1) Tryd.underlying37 rfl sz3 rfl rfl rfl) hK ?_ | refine aw_takeOn 5 rfl (by kernel_rfl) (by kernel_rfl) (by kernel_rfl) rfl rfl rfl h5 (fun w hs => run_fieldAddr Tryd.underlying37 rfl sz3 rfl rfl rfl) hK ?_
    first | refine aw_takeOn 6 rfl (by kernel_rfl) (by kernel_rfl) (by kernel_rfl) rfl rfl rfl h5 (fun w hs => run_load Tryd.underlying3 rfl rfl (hs.cellAt 0 rfl rfl)) hK ?_ | refine aw_takeOn 6 rfl (by kernel_rfl) (by kernel_rfl) (by kernel_rfl) rfl rfl rfl h5 (fun w hs => run_load Tryd.underlying3 rfl rfl (hs.cellAt 1 rfl rfl)) hK ?_ | refine aw_takeOn 6 rfl (by kernel_rfl) (by kernel_rfl) (by kernel_rfl) rfl rfl rfl h5 (fun w hs => run_load Tryd.underlying3 rfl rfl (hs.cellAt 2 rfl rfl)) hK ?_ | refine aw_takeOn 6 rfl (by kernel_rfl) (by kernel_rfl) (by kernel_rfl) rfl rfl rfl h5 (fun w hs => run_load Tryd.underlying3 rfl rfl (hs.cellAt 3 rfl rfl)) hK ?_ | refine aw_takeOn 6 rfl (by kernel_rfl) (by kernel_rfl) (by kernel_rfl) rfl rfl rfl h5 (fun w hs => run_load Tryd.underlying3 rfl rfl (hs.cellAt 4 rfl rfl)) hK ?_ | refine aw_takeOn 6 rfl (by kernel_rfl) (by kernel_rfl) (by kernel_rfl) rfl rfl rfl h5 (fun w hs => run_load Tryd.underlying3 rfl rfl (hs.cellAt 5 rfl rfl)) hK ?_ | refine aw_takeOn 6 rfl (by kernel_rfl) (by kernel_rfl) (by kernel_rfl) rfl rfl rfl h5 (fun w hs => run_load Tryd.underlying3 rfl rfl (hs.cellAt 6 rfl rfl)) hK ?_ | refine aw_takeOn 6 rfl (by kernel_rfl) (by kernel_rfl) (by kernel_rfl) rfl rfl rfl h5 (fun w hs => run_load Tryd.underlying3 rfl rfl (hs.cellAt 7 rfl rfl)) hK ?_ | refine aw_takeOn 6 rfl (by kernel_rfl) (by kernel_rfl) (by kernel_rfl) rfl rfl rfl h5 (fun w hs => run_load Tryd.underlying3 rfl rfl (hs.cellAt 8 rfl rfl)) hK ?_ | refine aw_takeOn 6 rfl (by kernel_rfl) (by kernel_rfl) (by kernel_rfl) rfl rfl rfl h5 (fun w hs => run_load Tryd.underlying3 rfl rfl (hs.cellAt 9 rfl rfl)) hK ?_ | refine aw_takeOn 6 rfl (by kernel_rfl) (by kernel_rfl) (by kernel_rfl) rfl rfl rfl h5 (fun w hs => run_load Tryd.underlying3 rfl rfl (hs.cellAt 10 rfl rfl)) hK ?_ | refine aw_takeOn 6 rfl (by kernel_rfl) (by kernel_rfl) (by kernel_rfl) rfl rfl rfl h5 (fun w hs => run_load Tryd.underlying3 rfl rfl (hs.cellAt 11 rfl rfl)) hK ?_ | refine aw_takeOn 6 rfl (by kernel_rfl) (by kernel_rfl) (by kernel_rfl) rfl rfl rfl h5 (fun w hs => run_load Tryd.underlying3 rfl rfl (hs.cellAt 12 rfl rfl)) hK ?_ | refine aw_takeOn 6 rfl (by kernel_rfl) (by kernel_rfl) (by kernel_rfl) rfl rfl rfl h5 (fun w hs => run_load Tryd.underlying3 rfl rfl (hs.cellAt 13 rfl rfl)) hK ?_
    first | refine aw_takeOn 7 rfl (by kernel_rfl) (by kernel_rfl) (by kernel_rfl) rfl rfl rfl h5 (fun w hs => run_move (v := .pointer (some _)) rfl) hK ?_ | refine aw_takeOn 7 rfl (by kernel_rfl) (by kernel_rfl) (by kernel_rfl) rfl rfl rfl h5 (fun w hs => run_move (v := .pointer none) rfl) hK ?_
    refine aw_takeOn 8 rfl (by kernel_rfl) (by kernel_rfl) (by kernel_rfl) rfl rfl rfl h5 (fun w hs => run_nilCheckP rfl) hK ?_
    first | refine aw_takeOn 9 rfl (by kernel_rfl) (by kernel_rfl) (by kernel_rfl) rfl rfl rfl h5 (fun w hs => run_fieldAddr (o' := 0) Tryd.underlying37 rfl sz23 rfl rfl rfl) hK ?_ | refine aw_takeOn 9 rfl (by kernel_rfl) (by kernel_rfl) (by kernel_rfl) rfl rfl rfl h5 (fun w hs => run_fieldAddr Tryd.underlying37 rfl sz23 rfl rfl rfl) hK ?_
    first | refine aw_takeOn 10 rfl (by kernel_rfl) (by kernel_rfl) (by kernel_rfl) rfl rfl rfl h5 (fun w hs => run_load Tryd.underlying23 rfl rfl (hs.cellAt 0 rfl rfl)) hK ?_ | refine aw_takeOn 10 rfl (by kernel_rfl) (by kernel_rfl) (by kernel_rfl) rfl rfl rfl h5 (fun w hs => run_load Tryd.underlying23 rfl rfl (hs.cellAt 1 rfl rfl)) hK ?_ | refine aw_takeOn 10 rfl (by kernel_rfl) (by kernel_rfl) (by kernel_rfl) rfl rfl rfl h5 (fun w hs => run_load Tryd.underlying23 rfl rfl (hs.cellAt 2 rfl rfl)) hK ?_ | refine aw_takeOn 10 rfl (by kernel_rfl) (by kernel_rfl) (by kernel_rfl) rfl rfl rfl h5 (fun w hs => run_load Tryd.underlying23 rfl rfl (hs.cellAt 3 rfl rfl)) hK ?_ | refine aw_takeOn 10 rfl (by kernel_rfl) (by kernel_rfl) (by kernel_rfl) rfl rfl rfl h5 (fun w hs => run_load Tryd.underlying23 rfl rfl (hs.cellAt 4 rfl rfl)) hK ?_ | refine aw_takeOn 10 rfl (by kernel_rfl) (by kernel_rfl) (by kernel_rfl) rfl rfl rfl h5 (fun w hs => run_load Tryd.underlying23 rfl rfl (hs.cellAt 5 rfl rfl)) hK ?_ | refine aw_takeOn 10 rfl (by kernel_rfl) (by kernel_rfl) (by kernel_rfl) rfl rfl rfl h5 (fun w hs => run_load Tryd.underlying23 rfl rfl (hs.cellAt 6 rfl rfl)) hK ?_ | refine aw_takeOn 10 rfl (by kernel_rfl) (by kernel_rfl) (by kernel_rfl) rfl rfl rfl h5 (fun w hs => run_load Tryd.underlying23 rfl rfl (hs.cellAt 7 rfl rfl)) hK ?_ | refine aw_takeOn 10 rfl (by kernel_rfl) (by kernel_rfl) (by kernel_rfl) rfl rfl rfl h5 (fun w hs => run_load Tryd.underlying23 rfl rfl (hs.cellAt 8 rfl rfl)) hK ?_ | refine aw_takeOn 10 rfl (by kernel_rfl) (by kernel_rfl) (by kernel_rfl) rfl rfl rfl h5 (fun w hs => run_load Tryd.underlying23 rfl rfl (hs.cellAt 9 rfl rfl)) hK ?_ | refine aw_takeOn 10 rfl (by kernel_rfl) (by kernel_rfl) (by kernel_rfl) rfl rfl rfl h5 (fun w hs => run_load Tryd.underlying23 rfl rfl (hs.cellAt 10 rfl rfl)) hK ?_ | refine aw_takeOn 10 rfl (by kernel_rfl) (by kernel_rfl) (by kernel_rfl) rfl rfl rfl h5 (fun w hs => run_load Tryd.underlying23 rfl rfl (hs.cellAt 11 rfl rfl)) hK ?_ | refine aw_takeOn 10 rfl (by kernel_rfl) (by kernel_rfl) (by kernel_rfl) rfl rfl rfl h5 (fun w hs => run_load Tryd.underlying23 rfl rfl (hs.cellAt 12 rfl rfl)) hK ?_ | refine aw_takeOn 10 rfl (by kernel_rfl) (by kernel_rfl) (by kernel_rfl) rfl rfl rfl h5 (fun w hs => run_load Tryd.underlying23 rfl rfl (hs.cellAt 13 rfl rfl)) hK ?_
    refine aw_takeOn 11 rfl (by kernel_rfl) (by kernel_rfl) (by kernel_rfl) rfl rfl rfl h5 (fun w hs => run_lenS Tryd.underlying23 rfl) hK ?_
    refine aw_takeOn 12 rfl (by kernel_rfl) (by kernel_rfl) (by kernel_rfl) rfl rfl rfl h5 (fun w hs => run_lss rfl rfl) hK ?_
    first | refine aw_take 13 rfl (by kernel_rfl) (by kernel_rfl) (by kernel_rfl) rfl (fun w hs => run_pickT (v := .bool _) rfl h5 rfl) hK ?_
    refine aw_done (by kernel_rfl) ?_
    clear hK
    refine cw_if rfl ?_ ?_
    · intro h16
      have g16 := of_decide_eq_true h16
      refine cw_region ?_
      first | refine lw_val rfl (run_move (v := .pointer (some _)) rfl) ?_ | refine lw_val rfl (run_move (v := .pointer none) rfl) ?_
      first | refine lw_val rfl (run_move (v := .int .i64 _) rfl) ?_
      refine lw_call rfl en66 (rfail_sl hk hs) ?_
      clear hs
      rintro _ w ⟨rfl, hs⟩
      refine lw_nil ?_
      refine res0  rfl ?_
      refine ⟨_, rfl, rfl, ?_⟩
      unfold overS
      rw [if_pos ⟨rfl, by simp only; omega⟩]
      exact hs
    · intro h16
      have g16 := of_decide_eq_false h16
      refine cw_skip ?_
      refine res0  rfl ?_
      refine ⟨_, rfl, rfl, ?_⟩
      unfold overS
      rw [if_neg (fun h => by have := h.2; simp only at this; omega)]
      exact hs
  · intro h5
    have hz : ¬ code = 0 := by simpa using h5
    refine aw_takeOff 3 rfl (by kernel_rfl) (by kernel_rfl) (by kernel_rfl) rfl rfl rfl h5 hK ?_
    refine aw_takeOff 4 rfl (by kernel_rfl) (by kernel_rfl) (by kernel_rfl) rfl rfl rfl h5 hK ?_
    refine aw_takeOff 5 rfl (by kernel_rfl) (by kernel_rfl) (by kernel_rfl) rfl rfl rfl h5 hK ?_
    refine aw_takeOff 6 rfl (by kernel_rfl) (by kernel_rfl) (by kernel_rfl) rfl rfl rfl h5 hK ?_
    refine aw_takeOff 7 rfl (by kernel_rfl) (by kernel_rfl) (by kernel_rfl) rfl rfl rfl h5 hK ?_
    refine aw_takeOff 8 rfl (by kernel_rfl) (by kernel_rfl) (by kernel_rfl) rfl rfl rfl h5 hK ?_
    refine aw_takeOff 9 rfl (by kernel_rfl) (by kernel_rfl) (by kernel_rfl) rfl rfl rfl h5 hK ?_
    refine aw_takeOff 10 rfl (by kernel_rfl) (by kernel_rfl) (by kernel_rfl) rfl rfl rfl h5 hK ?_
    refine aw_takeOff 11 rfl (by kernel_rfl) (by kernel_rfl) (by kernel_rfl) rfl rfl rfl h5 hK ?_
    refine aw_takeOff 12 rfl (by kernel_rfl) (by kernel_rfl) (by kernel_rfl) rfl rfl rfl h5 hK ?_
    first | refine aw_take 13 rfl (by kernel_rfl) (by kernel_rfl) (by kernel_rfl) rfl (fun w hs => run_pickF (v := .bool _) rfl h5 rfl) hK ?_
    refine aw_done (by kernel_rfl) ?_
    clear hK
    refine cw_iff rfl rfl ?_
    refine cw_skip ?_
    refine res0  rfl ?_
    refine ⟨_, rfl, rfl, ?_⟩
    unfold overS
    rw [if_neg (fun h => hz h.1)]
    exact hs
theorem faultE_sl (hA : ErrA ad g) {eb at_ k : Nat} (hs : Mem g w (errC ad eb at_ k :: L)) (hk : k = 0 ∨ k ∈ allCodes) : Calls Tryd.prog 69 #[eV ad k eb] w (Ret fun v w' => v = faultV k (plB k) (plQ (at_, k)) ∧ Mem g w' (errC ad eb at_ k :: L)) := by
  by_cases h0 : k = 0
  · subst h0
    rw [eV_0, ← errV_zero ad]
    exact fault0_sl hA hs (.inl rfl)
  · have hk := hk.resolve_left h0
    by_cases h1 : k = 101
    · subst h1
      rw [eV_101]
      exact fault0_sl hA hs (.inr hk)
    · rw [eV_at h0 h1, errC_at (fun h => h.elim h0 h1)] at *
      have h2 := plB_at h0 h1
      have h3 := faultAt_sl hA hs hk
      simp only [plQ, h2, if_true]
      exact h3
theorem see_sl (hA : ErrA ad g) {eb at_ k : Nat} (hs : Mem g w (errC ad eb at_ k :: L)) (hk : k = 0 ∨ k ∈ allCodes) (c : Int) (q : Bool) (y : Int) : Calls Tryd.prog 24 #[eV ad k eb, .agg #[.int .i64 c, .bool q, .int .i64 y]] w (Ret fun v w' => v = .bool (((k : Nat) : Int) == c && (plB k == q && ((plQ (at_, k) : Nat) : Int) == y)) ∧ Mem g w' (errC ad eb at_ k :: L)) := by
  refine calls_cw Tryd.func24 rfl rfl ?_
  skip
  refine cw_seq ?_
  refine cw_region ?_
  first | refine lw_box (v := .agg _) hs rfl rfl ?_
  clear hs
  intro b3 w hs
  try simp only [List.set_cons_succ, List.set_cons_zero] at hs
  first | refine lw_val rfl (run_assign (v := .bool _) rfl) ?_
  refine lw_nil ?_
  refine cw_seq ?_
  refine cw_drawS mixes hs ?_
  intro w tr hK
  replace hs := tr _ hs
  clear tr
  first | refine aw_take 0 rfl (by kernel_rfl) (by kernel_rfl) (by kernel_rfl) rfl (fun w hs => run_move (v := errV ad _) rfl) hK ?_ | refine aw_take 0 rfl (by kernel_rfl) (by kernel_rfl) (by kernel_rfl) rfl (fun w hs => run_move (v := .nilIface) rfl) hK ?_ | refine aw_take 0 rfl (by kernel_rfl) (by kernel_rfl) (by kernel_rfl) rfl (fun w hs => run_move (v := eV ad _ _) rfl) hK ?_ | refine aw_take 0 rfl (by kernel_rfl) (by kernel_rfl) (by kernel_rfl) rfl (fun w hs => run_move (v := .iface _ (.pointer (some _))) rfl) hK ?_
  first | refine aw_take 2 rfl (by kernel_rfl) (by kernel_rfl) (by kernel_rfl) rfl (fun w hs => run_loadRow hs 0 rfl Tryd.underlying35 sz35 rfl) hK ?_ | refine aw_take 2 rfl (by kernel_rfl) (by kernel_rfl) (by kernel_rfl) rfl (fun w hs => run_loadRow hs 1 rfl Tryd.underlying35 sz35 rfl) hK ?_ | refine aw_take 2 rfl (by kernel_rfl) (by kernel_rfl) (by kernel_rfl) rfl (fun w hs => run_loadRow hs 2 rfl Tryd.underlying35 sz35 rfl) hK ?_ | refine aw_take 2 rfl (by kernel_rfl) (by kernel_rfl) (by kernel_rfl) rfl (fun w hs => run_loadRow hs 3 rfl Tryd.underlying35 sz35 rfl) hK ?_ | refine aw_take 2 rfl (by kernel_rfl) (by kernel_rfl) (by kernel_rfl) rfl (fun w hs => run_loadRow hs 4 rfl Tryd.underlying35 sz35 rfl) hK ?_ | refine aw_take 2 rfl (by kernel_rfl) (by kernel_rfl) (by kernel_rfl) rfl (fun w hs => run_loadRow hs 5 rfl Tryd.underlying35 sz35 rfl) hK ?_ | refine aw_take 2 rfl (by kernel_rfl) (by kernel_rfl) (by kernel_rfl) rfl (fun w hs => run_loadRow hs 6 rfl Tryd.underlying35 sz35 rfl) hK ?_ | refine aw_take 2 rfl (by kernel_rfl) (by kernel_rfl) (by kernel_rfl) rfl (fun w hs => run_loadRow hs 7 rfl Tryd.underlying35 sz35 rfl) hK ?_ | refine aw_take 2 rfl (by kernel_rfl) (by kernel_rfl) (by kernel_rfl) rfl (fun w hs => run_loadRow hs 8 rfl Tryd.underlying35 sz35 rfl) hK ?_ | refine aw_take 2 rfl (by kernel_rfl) (by kernel_rfl) (by kernel_rfl) rfl (fun w hs => run_loadRow hs 9 rfl Tryd.underlying35 sz35 rfl) hK ?_ | refine aw_take 2 rfl (by kernel_rfl) (by kernel_rfl) (by kernel_rfl) rfl (fun w hs => run_loadRow hs 10 rfl Tryd.underlying35 sz35 rfl) hK ?_ | refine aw_take 2 rfl (by kernel_rfl) (by kernel_rfl) (by kernel_rfl) rfl (fun w hs => run_loadRow hs 11 rfl Tryd.underlying35 sz35 rfl) hK ?_ | refine aw_take 2 rfl (by kernel_rfl) (by kernel_rfl) (by kernel_rfl) rfl (fun w hs => run_loadRow hs 12 rfl Tryd.underlying35 sz35 rfl) hK ?_ | refine aw_take 2 rfl (by kernel_rfl) (by kernel_rfl) (by kernel_rfl) rfl (fun w hs => run_loadRow hs 13 rfl Tryd.underlying35 sz35 rfl) hK ?_
  refine aw_ready [1] (by kernel_rfl) (by simp) ?_
  refine ⟨⟨_, rfl, ?_⟩, trivial⟩
  refine lw_call rfl en69 (faultE_sl hA (hs.arr [1, 0] 2 (by decide)) hk) ?_
  clear hs
  rintro _ w ⟨rfl, hs⟩
  replace hs := hs.arr [1, 0] 2 (by decide)
  clear hK
  have hK := hs
  refine lw_nil ⟨hK, ?_⟩
  refine aw_ready [3] (by kernel_rfl) (by simp) ?_
  refine ⟨⟨_, rfl, ?_⟩, trivial⟩
  refine lw_call rfl en68 (hs.calls (sameFault_any _ _ _ _ _ _ w)) ?_
  clear hs
  rintro _ w ⟨rfl, hs⟩
  clear hK
  have hK := hs
  refine lw_nil ⟨hK, ?_⟩
  first | refine aw_take 4 rfl (by kernel_rfl) (by kernel_rfl) (by kernel_rfl) rfl (fun w hs => run_assign (v := .bool _) rfl) hK ?_
  refine aw_done (by kernel_rfl) ?_
  clear hK
  refine cw_ret ?_
  refine res1 (v := .bool _) rfl rfl ?_
  exact ⟨_, rfl, rfl, hs.tail⟩
theorem sameL_sl (hs : Mem g w L) {a b : Option Addr} {n m c d : Nat} {la lb : List Int} (ha : Rd g L (.slice a n c) (intsL la)) (hb : Rd g L (.slice b m d) (intsL lb)) (hn : n = la.length) (hm : m = lb.length) (hlen : la.length ≤ 1073741824) :
    Calls Tryd.prog 23 #[.slice a n c, .slice b m d] w (Ret fun v w' => v = .bool (decide (la = lb)) ∧ Mem g w' L) := by
  subst hn hm
  refine calls_cw Tryd.func23 rfl rfl ?_
  skip
  refine cw_seq ?_
  refine cw_region ?_
  first | refine lw_val rfl (run_assign (v := .bool _) rfl) ?_
  refine lw_nil ?_
  refine cw_seq ?_
  refine cw_seq ?_
  refine cw_region ?_
  first | refine lw_val rfl (run_move (v := .slice _ _ _) rfl) ?_
  refine lw_val rfl (run_lenS Tryd.underlying22 rfl) ?_
  first | refine lw_val rfl (run_move (v := .slice _ _ _) rfl) ?_
  refine lw_val rfl (run_lenS Tryd.underlying22 rfl) ?_
  refine lw_val rfl (run_nei rfl rfl) ?_
  refine lw_nil ?_
  refine cw_if rfl ?_ ?_
  · intro h11
    have g11 := ne_t h11
    refine cw_seq ?_
    refine cw_region ?_
    first | refine lw_val rfl (run_assign (v := .bool _) rfl) ?_
    refine lw_nil ?_
    refine cw_ret ?_
    refine res1 (v := .bool _) rfl rfl ?_
    exact ⟨_, rfl, ret_b (by rw [decide_eq_false (fun e => g11 (by rw [e]))]), hs⟩
  · intro h11
    have g11 := ne_f h11
    refine cw_skip ?_
    refine cw_seq ?_
    refine cw_seq ?_
    refine cw_region ?_
    first | refine lw_val rfl (run_assign (v := .int .i64 _) rfl) ?_
    refine lw_nil ?_
    refine cw_block ?_
    refine cw_loop (X := Nat) [4, 5, 6, 12, 13, 14, 15, 16, 17, 18, 19, 20, 21, 22, 23, 24, 25, 26, 27, 28] (fun k => [(5, .int .i64 (k : Nat))]) (fun k w => k ≤ la.length ∧ la.take k = lb.take k ∧ Mem g w L) (fun k => la.length - k) (0) ?_ ?_ ?_
    · exact ⟨rfl, trivial⟩
    · exact ⟨Nat.zero_le _, rfl, hs⟩
    clear hs
    rintro x ξ w hI
    obtain ⟨hk, hq, hs⟩ := hI
    refine cw_seq ?_
    refine cw_seq ?_
    refine cw_region ?_
    first | refine lw_val rfl (run_move (v := .int .i64 _) rfl) ?_
    first | refine lw_val rfl (run_move (v := .slice _ _ _) rfl) ?_
    refine lw_val rfl (run_lenS Tryd.underlying22 rfl) ?_
    refine lw_val rfl (run_lss rfl rfl) ?_
    refine lw_nil ?_
    refine cw_if rfl ?_ ?_
    · intro h15
      have g15 := of_decide_eq_true h15
      obtain ⟨xa, hxa⟩ : ∃ xa, la[x]? = some xa := ⟨la[x]'(by omega), List.getElem?_eq_getElem _⟩
      obtain ⟨xb, hxb⟩ : ∃ xb, lb[x]? = some xb := ⟨lb[x]'(by omega), List.getElem?_eq_getElem _⟩
      obtain ⟨b1, o1, rfl, _⟩ := ha.cells' hs (by rw [intsL_len]; omega)
      obtain ⟨b2, o2, rfl, _⟩ := hb.cells' hs (by rw [intsL_len]; omega)
      refine cw_skip ?_
      refine cw_seq ?_
      refine cw_block ?_
      refine cw_seq ?_
      refine cw_drawS mixes hs ?_
      intro w tr hK
      replace hs := tr _ hs
      clear tr
      first | refine aw_take 0 rfl (by kernel_rfl) (by kernel_rfl) (by kernel_rfl) rfl (fun w hs => run_move (v := .slice _ _ _) rfl) hK ?_
      first | refine aw_take 1 rfl (by kernel_rfl) (by kernel_rfl) (by kernel_rfl) rfl (fun w hs => run_move (v := .int .i64 _) rfl) hK ?_
      refine aw_take 2 rfl (by kernel_rfl) (by kernel_rfl) (by kernel_rfl) rfl (fun w hs => run_indexAddr Tryd.underlying22 sz2 rfl rfl rfl (by omega) rfl) hK ?_
      refine aw_take 3 rfl (by kernel_rfl) (by kernel_rfl) (by kernel_rfl) rfl (fun w hs => run_load Tryd.underlying2 rfl rfl (ha.cellAt hs (intsL_at hxa))) hK ?_
      first | refine aw_take 4 rfl (by kernel_rfl) (by kernel_rfl) (by kernel_rfl) rfl (fun w hs => run_move (v := .slice _ _ _) rfl) hK ?_
      first | refine aw_take 5 rfl (by kernel_rfl) (by kernel_rfl) (by kernel_rfl) rfl (fun w hs => run_move (v := .int .i64 _) rfl) hK ?_
      refine aw_take 6 rfl (by kernel_rfl) (by kernel_rfl) (by kernel_rfl) rfl (fun w hs => run_indexAddr Tryd.underlying22 sz2 rfl rfl rfl (by omega) rfl) hK ?_
      refine aw_take 7 rfl (by kernel_rfl) (by kernel_rfl) (by kernel_rfl) rfl (fun w hs => run_load Tryd.underlying2 rfl rfl (hb.cellAt hs (intsL_at hxb))) hK ?_
      refine aw_take 8 rfl (by kernel_rfl) (by kernel_rfl) (by kernel_rfl) rfl (fun w hs => run_eqi rfl rfl) hK ?_
      first | refine aw_take 9 rfl (by kernel_rfl) (by kernel_rfl) (by kernel_rfl) rfl (fun w hs => run_assign (v := .bool _) rfl) hK ?_
      refine aw_done (by kernel_rfl) ?_
      clear hK
      refine cw_seq ?_
      refine cw_region ?_
      first | refine lw_val rfl (run_move (v := .bool _) rfl) ?_
      refine lw_val rfl (run_not rfl) ?_
      refine lw_nil ?_
      refine cw_if rfl ?_ ?_
      · intro h26
        replace h26 := not_b h26
        have g26 := of_decide_eq_false h26
        refine cw_seq ?_
        refine cw_region ?_
        first | refine lw_val rfl (run_assign (v := .bool _) rfl) ?_
        refine lw_nil ?_
        refine cw_ret ?_
        refine res1 (v := .bool _) rfl rfl ?_
        exact ⟨_, rfl, ret_b (by rw [decide_eq_false (fun e => by subst e; rw [hxa] at hxb; cases hxb; exact g26 rfl)]), hs⟩
      · intro h26
        replace h26 := not_c h26
        have g26 := of_decide_eq_true h26
        refine cw_skip ?_
        refine cw_region ?_
        first | refine lw_val rfl (run_move (v := .int .i64 _) rfl) ?_
        refine lw_val rfl (run_add64 rfl rfl rfl (inI (by omega) (by omega))) ?_
        first | refine lw_val rfl (run_assign (v := .int .i64 _) rfl) ?_
        refine lw_nil ?_
        have he : xa = xb := by omega
        exact ⟨x + 1, by omega, ⟨by omega, by rw [List.take_add_one, List.take_add_one, hxa, hxb, hq, he], hs⟩, ⟨rfl, trivial⟩, by repeat (first | exact Out.mix _ _ _ | refine Out.updo rfl ?_ | refine Out.upd rfl ?_ | refine Out.mixIn rfl ?_)⟩
    · intro h15
      have g15 := of_decide_eq_false h15
      refine cw_exit rfl ?_
      refine cw_seq ?_
      refine cw_region ?_
      first | refine lw_val rfl (run_assign (v := .bool _) rfl) ?_
      refine lw_nil ?_
      refine cw_ret ?_
      refine res1 (v := .bool _) rfl rfl ?_
      have h1 : x = la.length := by omega
      rw [h1, List.take_of_length_le (Nat.le_refl _), List.take_of_length_le (by omega)] at hq
      exact ⟨_, rfl, ret_b (decide_eq_true hq).symm, hs⟩
theorem vnum_le {most m : Nat} {b : List UInt8} {st st2 : Nat × Nat} (h : vnum most b st = (m, st2)) : m ≤ most := by
  unfold vnum at h
  split at h
  · cases h; exact Nat.zero_le _
  · split at h
    · cases h; exact Nat.zero_le _
    · split at h
      · cases h; exact Nat.zero_le _
      · rename_i h3; cases h; exact Nat.not_lt.1 h3
theorem rnums_codes {b : List UInt8} {k : Nat} {l : List Int} (h : rnums b = (k, l)) : k = 0 ∨ k ∈ allCodes := by
  have hg : ∀ (s : List UInt8), (vget s).1 = 0 ∨ (vget s).1 = 101 ∨ (vget s).1 = 103 := fun s => by
    obtain ⟨k, x, q, hv⟩ : ∃ k x q, vget s = (k, x, q) := ⟨_, _, _, rfl⟩
    have := vgetF_code hv
    rw [hv]; exact this
  have hok : ∀ {c : Nat}, c = 101 ∨ c = 103 → c = 0 ∨ c ∈ allCodes := fun h => .inr (by rcases h with rfl | rfl <;> decide)
  have hn : (vnum 4096 b (0, 0)).2.2 = 0 ∨ (vnum 4096 b (0, 0)).2.2 ∈ allCodes := by
    simp only [vnum]
    split
    · exact .inl rfl
    · split
      · rename_i h1; exact hok ((hg _).resolve_left h1)
      · split
        · exact .inr (show 105 ∈ allCodes by decide)
        · exact .inl rfl
  have hr : ∀ (f : Nat) (st : Nat × Nat) (out : List Int), (st.2 = 0 ∨ st.2 ∈ allCodes) → ((rloop f b st out).2.2 = 0 ∨ (rloop f b st out).2.2 ∈ allCodes) := by
    intro f
    induction f with
    | zero => intro st out h; exact h
    | succ f ih =>
      intro st out h
      simp only [rloop]
      split
      · exact h
      · refine ih _ _ ?_
        unfold vintS
        split
        · exact h
        · split
          · rename_i h1; exact hok ((hg _).resolve_left h1)
          · exact .inl rfl
  have h1 := hr (vnum 4096 b (0, 0)).1 (vnum 4096 b (0, 0)).2 [] hn
  simp only [rnums] at h
  split at h
  · cases h; exact h1
  · split at h
    · cases h; exact .inr (by decide)
    · cases h; exact .inl rfl
set_option maxRecDepth 100000 in
theorem pointNums_sl (hA : ErrA ad g) (hs : Mem g w []) {a0 a1 : Option Addr} {n0 n1 c0 c1 : Nat} {l : List Int} {b : List UInt8} (h0 : Came g (.slice a0 n0 c0) (intsL l)) (h1 : Came g (.slice a1 n1 c1) (bytesL b)) (e0 : n0 = l.length) (e1 : n1 = b.length) (hl : ∀ z ∈ l, InI64 z) :
    Calls Tryd.prog 3 #[.slice a0 n0 c0, .slice a1 n1 c1] w (Ret fun v w' => v = .bool true ∧ Mem g w' []) := by
  subst e0 e1
  have hE : ErrW ad g := hA.sub (by decide)
  have hvl := vputF_len 10 l.length
  have hfl : ∀ i, (numsF (l.take i)).length ≤ 10 * l.length := fun i => Nat.le_trans (numsF_len _) (by rw [List.length_take]; omega)
  obtain ⟨m, st, hv⟩ : ∃ m st, vnum 4096 b (0, 0) = (m, st) := ⟨_, _, rfl⟩
  have hm4 := vnum_le hv
  obtain ⟨fo, fst, hf⟩ : ∃ fo fst, rloop m b st [] = (fo, fst) := ⟨_, _, rfl⟩
  obtain ⟨k2, l2, hk2⟩ : ∃ k2 l2, rnums b = (k2, l2) := ⟨_, _, rfl⟩
  have hk2c := rnums_codes hk2
  have hk3 : (overS b 104 fst).2 = k2 ∧ (overS b 104 fst).1 = fst.1 ∧ l2 = (if (overS b 104 fst).2 = 0 then fo else []) := by
    have h := hk2
    simp only [rnums, hv, hf] at h
    unfold overS
    by_cases hz : fst.2 = 0
    · rw [if_neg (by omega)] at h
      by_cases hq : fst.1 < b.length
      · rw [if_pos hq] at h; cases h; rw [if_pos ⟨hz, hq⟩]; exact ⟨rfl, rfl, rfl⟩
      · rw [if_neg hq] at h; cases h; rw [if_neg (fun h => hq h.2)]; exact ⟨hz, rfl, by rw [if_pos hz]⟩
    · rw [if_pos hz] at h; cases h; rw [if_neg (fun h => hz h.1)]; exact ⟨rfl, rfl, by rw [if_neg hz]⟩
  refine calls_cw Tryd.func3 rfl rfl ?_
  skip
  refine cw_seq ?_
  refine cw_region ?_
  first | refine lw_val rfl (run_assign (v := .bool _) rfl) ?_
  refine lw_nil ?_
  refine cw_seq ?_
  refine cw_region ?_
  refine lw_call rfl en13 (first8_sl hs) ?_
  clear hs
  rintro _ w ⟨rfl, hs⟩
  first | refine lw_val rfl (run_assign (v := .bool _) rfl) ?_
  refine lw_nil ?_
  refine cw_seq ?_
  refine cw_seq ?_
  refine cw_region ?_
  first | refine lw_val rfl (run_move (v := .bool _) rfl) ?_
  refine lw_val rfl (run_not rfl) ?_
  refine lw_nil ?_
  refine cw_iff rfl (not_f (rfl)) ?_
  refine cw_skip ?_
  refine cw_seq ?_
  refine cw_seq ?_
  refine cw_region ?_
  first | refine lw_val rfl (run_move (v := .slice _ _ _) rfl) ?_
  refine lw_val rfl (run_lenS Tryd.underlying22 rfl) ?_
  refine lw_val rfl (run_gtr rfl rfl) ?_
  first | refine lw_val rfl (run_move (v := .bool _) rfl) ?_
  refine lw_split (t := _) (d := 23) rfl ?_ ?_
  · intro h22
    have g22 := of_decide_eq_true h22
    refine lw_off rfl rfl rfl h22 ?_
    refine lw_off rfl rfl rfl h22 ?_
    refine lw_off rfl rfl rfl h22 ?_
    first | refine lw_val rfl (run_pickT (v := .bool _) rfl h22 rfl) ?_
    first | refine lw_val rfl (run_move (v := .bool _) rfl) ?_
    refine lw_off rfl rfl rfl rfl ?_
    refine lw_off rfl rfl rfl rfl ?_
    first | refine lw_val rfl (run_pickT (v := .bool _) rfl rfl rfl) ?_
    refine lw_nil ?_
    refine cw_ift rfl rfl ?_
    refine cw_seq ?_
    refine cw_region ?_
    first | refine lw_val rfl (run_move (v := .bool _) rfl) ?_
    first | refine lw_val rfl (run_assign (v := .bool _) rfl) ?_
    refine lw_nil ?_
    refine cw_ret ?_
    refine res1 (v := .bool _) rfl rfl ?_
    exact ⟨_, rfl, rfl, hs⟩
  · intro h22
    have g22 := of_decide_eq_false h22
    refine lw_on rfl rfl h22 ?_
    first | refine lw_val rfl (run_move (v := .slice _ _ _) rfl) ?_
    refine lw_on rfl rfl h22 ?_
    refine lw_val rfl (run_lenS Tryd.underlying23 rfl) ?_
    refine lw_on rfl rfl h22 ?_
    refine lw_val rfl (run_gtr rfl rfl) ?_
    first | refine lw_val rfl (run_pickF (v := .bool _) rfl h22 rfl) ?_
    first | refine lw_val rfl (run_move (v := .bool _) rfl) ?_
    refine lw_split (t := _) (d := 28) rfl ?_ ?_
    · intro h26
      have g26 := of_decide_eq_true h26
      refine lw_off rfl rfl rfl h26 ?_
      refine lw_off rfl rfl rfl h26 ?_
      first | refine lw_val rfl (run_pickT (v := .bool _) rfl h26 rfl) ?_
      refine lw_nil ?_
      refine cw_ift rfl rfl ?_
      refine cw_seq ?_
      refine cw_region ?_
      first | refine lw_val rfl (run_move (v := .bool _) rfl) ?_
      first | refine lw_val rfl (run_assign (v := .bool _) rfl) ?_
      refine lw_nil ?_
      refine cw_ret ?_
      refine res1 (v := .bool _) rfl rfl ?_
      exact ⟨_, rfl, rfl, hs⟩
    · intro h26
      have g26 := of_decide_eq_false h26
      refine lw_on rfl rfl h26 ?_
      first | refine lw_val rfl (run_move (v := .bool _) rfl) ?_
      refine lw_on rfl rfl h26 ?_
      refine lw_val rfl (run_not rfl) ?_
      first | refine lw_val rfl (run_pickF (v := .bool _) rfl h26 rfl) ?_
      refine lw_nil ?_
      refine cw_iff rfl (not_f (rfl)) ?_
      refine cw_skip ?_
      refine cw_seq ?_
      refine cw_region ?_
      first | refine lw_val rfl (run_move (v := .slice _ _ _) rfl) ?_
      refine lw_call rfl en14 (nums_sl hs (h0.rd _) rfl hl (by omega)) ?_
      clear hs
      rintro _ w ⟨a34, c34, rfl, hs⟩
      first | refine lw_val rfl (run_assign (v := .slice _ _ _) rfl) ?_
      refine lw_nil ?_
      refine cw_seq ?_
      refine cw_region ?_
      first | refine lw_val rfl (run_move (v := .slice _ _ _) rfl) ?_
      refine lw_val rfl (run_lenS Tryd.underlying22 rfl) ?_
      refine lw_val rfl (run_convIn Tryd.underlying3 Tryd.underlying27 rfl (c := ((l.length : Nat) : Int)) (by rw [wrap_u64]; omega)) ?_
      refine lw_call rfl en15 (rput_sl hs (n := l.length) (by omega)) ?_
      clear hs
      rintro _ w ⟨a38, c38, rfl, hs⟩
      first | refine lw_val rfl (run_assign (v := .slice _ _ _) rfl) ?_
      refine lw_nil ?_
      refine cw_seq ?_
      refine cw_seq ?_
      refine cw_region ?_
      first | refine lw_val rfl (run_assign (v := .int .i64 _) rfl) ?_
      refine lw_nil ?_
      refine cw_block ?_
      refine cw_loop (X := Nat × Option Addr × Nat) [7, 8, 39, 40, 41, 42, 43, 44, 45, 46, 47, 48, 49, 50, 51] (fun x => [(7, .slice x.2.1 (vputL l.length ++ numsF (l.take x.1)).length x.2.2), (8, .int .i64 (x.1 : Nat))]) (fun x w => x.1 ≤ l.length ∧ Mem g w (own (.slice x.2.1 (vputL l.length ++ numsF (l.take x.1)).length x.2.2) (bytesL (vputL l.length ++ numsF (l.take x.1))) :: own (.slice a34 (numsL l).length c34) (bytesL (numsL l)) :: [])) (fun x => l.length - x.1) ((0, a38, c38)) ?_ ?_ ?_
      · exact ⟨by simp [numsF]; rfl, rfl, trivial⟩
      · exact ⟨Nat.zero_le _, by simpa [numsF] using hs⟩
      clear hs
      rintro x ξ w hI
      obtain ⟨i, oa, oc⟩ := x
      obtain ⟨hi, hs⟩ := hI
      simp only at hi hs
      show cw _ _ _ _ _ _ (updL (mix _ ξ _) [(7, .slice oa (vputL l.length ++ numsF (l.take i)).length oc), (8, .int .i64 (i : Nat))]) w
      refine cw_seq ?_
      refine cw_seq ?_
      refine cw_region ?_
      first | refine lw_val rfl (run_move (v := .int .i64 _) rfl) ?_
      first | refine lw_val rfl (run_move (v := .slice _ _ _) rfl) ?_
      refine lw_val rfl (run_lenS Tryd.underlying22 rfl) ?_
      refine lw_val rfl (run_lss rfl rfl) ?_
      refine lw_nil ?_
      refine cw_if rfl ?_ ?_
      · intro h42
        have g42 := of_decide_eq_true h42
        obtain ⟨z, hz⟩ : ∃ z, l[i]? = some z := ⟨_, List.getElem?_eq_getElem (by omega)⟩
        have hzi := hl z (List.mem_of_getElem? hz)
        obtain ⟨b0, o0, rfl, _⟩ := (h0.rd _).cells' hs (by rw [intsL_len]; omega)
        have hfi := hfl i
        have hz10 := vputF_len 10 (zig z)
        refine cw_skip ?_
        refine cw_seq ?_
        refine cw_block ?_
        refine cw_region ?_
        first | refine lw_val rfl (run_move (v := .slice _ _ _) rfl) ?_
        first | refine lw_val rfl (run_move (v := .slice _ _ _) rfl) ?_
        first | refine lw_val rfl (run_move (v := .int .i64 _) rfl) ?_
        refine lw_val rfl (run_indexAddr Tryd.underlying22 sz2 rfl rfl rfl (by omega) rfl) ?_
        refine lw_val rfl (run_load Tryd.underlying2 rfl rfl ((h0.rd _).cellAt hs (intsL_at hz))) ?_
        refine lw_call rfl en16 (rputint_sl hs hzi) ?_
        clear hs
        rintro _ w ⟨a50, c50, rfl, hs⟩
        refine lw_append hs rfl 1 rfl Tryd.underlying23 in5 rfl rfl rfl (src_of_seq (P := Tryd.prog) Tryd.underlying23 ((hs.rdOwn 0 rfl).seq hs) (bytesL_one _)) (by simp only [bytesL_len, List.length_append, vputL]; omega) (by simp only [bytesL_len, List.length_append, vputL]; omega) ?_
        clear hs
        intro a51 c51 w hs
        simp only [List.set_cons_succ, List.set_cons_zero] at hs
        first | refine lw_val rfl (run_assign (v := .slice _ _ _) rfl) ?_
        refine lw_nil ?_
        refine cw_region ?_
        first | refine lw_val rfl (run_move (v := .int .i64 _) rfl) ?_
        refine lw_val rfl (run_add64 rfl rfl rfl (inI (by omega) (by omega))) ?_
        first | refine lw_val rfl (run_assign (v := .int .i64 _) rfl) ?_
        refine lw_nil ?_
        have e1 : bytesL (vputL l.length ++ numsF (l.take i)) ++ bytesL (vputL (zig z)) = bytesL (vputL l.length ++ numsF (l.take (i + 1))) := by rw [← bytesL_app, List.append_assoc, ← numsF_take hz]
        have e2 : (bytesL (vputL l.length ++ numsF (l.take i))).length + (bytesL (vputL (zig z))).length = (vputL l.length ++ numsF (l.take (i + 1))).length := by rw [← List.length_append, e1, bytesL_len]
        rw [e1, e2] at hs
        exact ⟨(i + 1, a51, c51), by simp only; omega, ⟨by simp only; omega, hs.tail⟩, ⟨by rw [← e2]; rfl, rfl, trivial⟩, by repeat (first | exact Out.mix _ _ _ | refine Out.updo rfl ?_ | refine Out.upd rfl ?_ | refine Out.mixIn rfl ?_)⟩
      · intro h42
        have g42 := of_decide_eq_false h42
        have e : i = l.length := by omega
        subst e
        rw [List.take_length] at hs ⊢
        have e9 : vputL l.length ++ numsF l = numsL l := rfl
        have hnl := numsL_len l
        refine cw_exit rfl ?_
        refine cw_seq ?_
        refine cw_region ?_
        first | refine lw_val rfl (run_move (v := .slice _ _ _) rfl) ?_
        refine lw_call rfl en17 (rnums_sl hE hs (hs.rdOwn 1 rfl) rfl (by omega) (rnums_nums hl (by omega))) ?_
        clear hs
        rintro _ w ⟨a54, c54, eb, rfl, _, hs⟩
        first | refine lw_val rfl (run_move (v := .tuple _) rfl) ?_
        first | refine lw_val rfl (run_extract (v := .slice _ _ _) rfl rfl) ?_
        first | refine lw_val rfl (run_extract (v := errV ad _) rfl rfl) ?_ | refine lw_val rfl (run_extract (v := .nilIface) rfl rfl) ?_ | refine lw_val rfl (run_extract (v := eV ad _ _) rfl rfl) ?_ | refine lw_val rfl (run_extract (v := .iface _ (.pointer (some _))) rfl rfl) ?_
        first | refine lw_val rfl (run_assign (v := .slice _ _ _) rfl) ?_
        first | refine lw_val rfl (run_assign (v := errV ad _) rfl) ?_ | refine lw_val rfl (run_assign (v := .nilIface) rfl) ?_ | refine lw_val rfl (run_assign (v := eV ad _ _) rfl) ?_ | refine lw_val rfl (run_assign (v := .iface _ (.pointer (some _))) rfl) ?_
        refine lw_nil ?_
        refine cw_seq ?_
        refine cw_region ?_
        first | refine lw_val rfl (run_move (v := .slice _ _ _) rfl) ?_
        refine lw_val rfl (run_build (cs := [.slice a1 b.length c1, .int .i64 0, .int .i64 0, .bool false, .int .i64 0]) Tryd.underlying37 ze37 pl37 rfl) ?_
        first | refine lw_box (v := .agg _) hs rfl rfl ?_
        clear hs
        intro b59 w hs
        try simp only [List.set_cons_succ, List.set_cons_zero] at hs
        replace hs : Mem g w (refR b59 (.slice a1 b.length c1) (0, 0) :: _) := hs
        first | refine lw_val rfl (run_assign (v := .pointer (some _)) rfl) ?_ | refine lw_val rfl (run_assign (v := .pointer none) rfl) ?_
        refine lw_nil ?_
        refine cw_seq ?_
        refine cw_region ?_
        first | refine lw_val rfl (run_move (v := .pointer (some _)) rfl) ?_ | refine lw_val rfl (run_move (v := .pointer none) rfl) ?_
        refine lw_call rfl en18 (rnum_sl hs (h1.rd _) rfl (Nat.zero_le _) (by omega) hv) ?_
        clear hs
        rintro _ w ⟨rfl, hst1, hs⟩
        refine lw_val rfl (run_convIn Tryd.underlying27 Tryd.underlying3 rfl (c := ((m : Nat) : Int)) (wrap_i64 ⟨by omega, by omega⟩)) ?_
        first | refine lw_val rfl (run_assign (v := .int .i64 _) rfl) ?_
        refine lw_nil ?_
        refine cw_seq ?_
        replace hs := hs.addE (own_nil _)
        refine cw_region ?_
        first | refine lw_val rfl (run_assign (v := .slice _ _ _) rfl) ?_
        refine lw_nil ?_
        refine cw_seq ?_
        refine cw_seq ?_
        refine cw_region ?_
        first | refine lw_val rfl (run_assign (v := .int .i64 _) rfl) ?_
        refine lw_nil ?_
        refine cw_block ?_
        refine cw_loop (X := Nat × List Int × (Nat × Nat) × Option Addr × Nat) [13, 14, 63, 64, 65, 66, 67, 68, 69, 70, 71, 72, 73, 74, 75, 76] (fun x => [(13, .slice x.2.2.2.1 x.2.1.length x.2.2.2.2), (14, .int .i64 (x.1 : Nat))]) (fun x w => x.1 ≤ m ∧ x.2.1.length ≤ x.1 ∧ x.2.2.1.1 ≤ b.length ∧ rloop (m - x.1) b x.2.2.1 x.2.1 = (fo, fst) ∧ Mem g w (own (.slice x.2.2.2.1 x.2.1.length x.2.2.2.2) (intsL x.2.1) :: refR b59 (.slice a1 b.length c1) x.2.2.1 :: own (.slice a54 l.length c54) (intsL l) :: errC ad eb (rnAt (numsL l)) 0 :: own (.slice oa (vputL l.length ++ numsF l).length oc) (bytesL (vputL l.length ++ numsF l)) :: own (.slice a34 (numsL l).length c34) (bytesL (numsL l)) :: [])) (fun x => m - x.1) ((0, [], st, none, 0)) ?_ ?_ ?_
        · exact ⟨rfl, rfl, trivial⟩
        · exact ⟨Nat.zero_le _, Nat.le_refl _, hst1, hf, hs⟩
        clear hs
        rintro x ξ w hI
        obtain ⟨i, out, sq, pa, pc⟩ := x
        obtain ⟨hi, hol, hsl, hrl, hs⟩ := hI
        simp only at hi hol hsl hrl hs
        show cw _ _ _ _ _ _ (updL (mix _ ξ _) [(13, .slice pa out.length pc), (14, .int .i64 (i : Nat))]) w
        refine cw_seq ?_
        refine cw_seq ?_
        refine cw_region ?_
        first | refine lw_val rfl (run_move (v := .int .i64 _) rfl) ?_
        first | refine lw_val rfl (run_move (v := .int .i64 _) rfl) ?_
        refine lw_val rfl (run_lss rfl rfl) ?_
        first | refine lw_val rfl (run_move (v := .bool _) rfl) ?_
        refine lw_split (t := _) (d := 66) rfl ?_ ?_
        · intro h65
          have g65 := of_decide_eq_true h65
          rw [show m - i = (m - (i + 1)) + 1 by omega] at hrl
          simp only [rloop] at hrl
          refine lw_on rfl rfl h65 ?_
          first | refine lw_val rfl (run_move (v := .pointer (some _)) rfl) ?_ | refine lw_val rfl (run_move (v := .pointer none) rfl) ?_
          refine lw_on rfl rfl h65 ?_
          refine lw_call rfl en19 (rfine_sl (hs.arr [1, 0] 2 (by decide))) ?_
          clear hs
          rintro _ w ⟨rfl, hs⟩
          first | refine lw_val rfl (run_pickT (v := .bool _) rfl h65 rfl) ?_
          refine lw_nil ?_
          refine cw_if rfl ?_ ?_
          · intro h68
            have hz0 := of_decide_eq_true h68
            rw [if_neg (by omega)] at hrl
            obtain ⟨z, sz, hvz⟩ : ∃ z sz, vintS b sq = (z, sz) := ⟨_, _, rfl⟩
            rw [hvz] at hrl
            simp only at hrl
            refine cw_skip ?_
            refine cw_seq ?_
            refine cw_block ?_
            refine cw_region ?_
            first | refine lw_val rfl (run_move (v := .slice _ _ _) rfl) ?_
            first | refine lw_val rfl (run_move (v := .pointer (some _)) rfl) ?_ | refine lw_val rfl (run_move (v := .pointer none) rfl) ?_
            refine lw_call rfl en20 (rint_sl hs (h1.rd _) rfl hsl (by omega) hvz) ?_
            clear hs
            rintro _ w ⟨rfl, hsz, hs⟩
            refine lw_buildSlice hs rfl ((intsL [z])) Tryd.underlying22 zs2 rfl (cells_one (intsL_one _)) rfl rfl rfl ?_
            clear hs
            intro b75 w hs
            try simp only [List.set_cons_succ, List.set_cons_zero] at hs
            refine lw_append hs rfl 2 rfl Tryd.underlying22 in2 rfl rfl rfl (src_of_seq (P := Tryd.prog) Tryd.underlying22 ((Rd.cells (n := 1) (cs := intsL [z]) 0 rfl rfl).seq hs) (intsL_one [z])) (by simp only [intsL_len, List.length_cons, List.length_nil]; omega) (by simp only [intsL_len, List.length_cons, List.length_nil]; omega) ?_
            clear hs
            intro a76 c76 w hs
            simp only [List.set_cons_succ, List.set_cons_zero] at hs
            first | refine lw_val rfl (run_assign (v := .slice _ _ _) rfl) ?_
            refine lw_nil ?_
            refine cw_region ?_
            first | refine lw_val rfl (run_move (v := .int .i64 _) rfl) ?_
            refine lw_val rfl (run_add64 rfl rfl rfl (inI (by omega) (by omega))) ?_
            first | refine lw_val rfl (run_assign (v := .int .i64 _) rfl) ?_
            refine lw_nil ?_
            have e1 : intsL out ++ intsL [z] = intsL (out ++ [z]) := (intsL_app _ _).symm
            have e2 : (intsL out).length + (intsL [z]).length = (out ++ [z]).length := by simp [intsL_len]
            rw [e1, e2] at hs
            exact ⟨(i + 1, out ++ [z], sz, a76, c76), by simp only; omega, ⟨by simp only; omega, by simp; omega, hsz, hrl, hs.arr [2, 1] 3 (by decide)⟩, ⟨show Value.slice a76 ((intsL out).length + (intsL [z]).length) c76 = Value.slice a76 (out ++ [z]).length c76 from by rw [e2], rfl, trivial⟩, by repeat (first | exact Out.mix _ _ _ | refine Out.updo rfl ?_ | refine Out.upd rfl ?_ | refine Out.mixIn rfl ?_)⟩
          · intro h68
            have hz0 := of_decide_eq_false h68
            rw [if_pos hz0] at hrl
            cases hrl
            refine cw_exit rfl ?_
            refine cw_seq ?_
            refine cw_region ?_
            first | refine lw_val rfl (run_move (v := .pointer (some _)) rfl) ?_ | refine lw_val rfl (run_move (v := .pointer none) rfl) ?_
            refine lw_call rfl en21 (rover_sl (k := 104) (by decide) hs rfl) ?_
            clear hs
            rintro _ w ⟨rfl, hs⟩
            refine lw_nil ?_
            obtain ⟨so, hso⟩ : ∃ so, overS b 104 fst = so := ⟨_, rfl⟩
            rw [hso] at hs hk3
            obtain ⟨hk3, hk4, hl2⟩ := hk3
            refine cw_seq ?_
            refine cw_region ?_
            first | refine lw_val rfl (run_move (v := .slice _ _ _) rfl) ?_
            refine lw_call rfl en17 (rnums_sl hE hs (h1.rd _) rfl (by omega) hk2) ?_
            clear hs
            rintro _ w ⟨a81, c81, eb2, rfl, _, hs⟩
            first | refine lw_val rfl (run_move (v := .tuple _) rfl) ?_
            first | refine lw_val rfl (run_extract (v := .slice _ _ _) rfl rfl) ?_
            first | refine lw_val rfl (run_extract (v := errV ad _) rfl rfl) ?_ | refine lw_val rfl (run_extract (v := .nilIface) rfl rfl) ?_ | refine lw_val rfl (run_extract (v := eV ad _ _) rfl rfl) ?_ | refine lw_val rfl (run_extract (v := .iface _ (.pointer (some _))) rfl rfl) ?_
            first | refine lw_val rfl (run_assign (v := .slice _ _ _) rfl) ?_
            first | refine lw_val rfl (run_assign (v := errV ad _) rfl) ?_ | refine lw_val rfl (run_assign (v := .nilIface) rfl) ?_ | refine lw_val rfl (run_assign (v := eV ad _ _) rfl) ?_ | refine lw_val rfl (run_assign (v := .iface _ (.pointer (some _))) rfl) ?_
            refine lw_nil ?_
            refine cw_seq ?_
            refine cw_seq ?_
            refine cw_region ?_
            first | refine lw_val rfl (run_move (v := .pointer (some _)) rfl) ?_ | refine lw_val rfl (run_move (v := .pointer none) rfl) ?_
            refine lw_call rfl en19 (rfine_sl (hs.arr [2, 0, 1, 3] 4 (by decide))) ?_
            clear hs
            rintro _ w ⟨rfl, hs⟩
            replace hs : Mem g w [refR b59 (.slice a1 b.length c1) so, own (.slice a81 l2.length c81) (intsL l2), errC ad eb2 (rnAt b) k2, own (.slice pa fo.length pc) (intsL fo), own (.slice a54 l.length c54) (intsL l), errC ad eb (rnAt (numsL l)) 0, own (.slice oa (vputL l.length ++ numsF l).length oc) (bytesL (numsL l)), own (.slice a34 (numsL l).length c34) (bytesL (numsL l))] := hs
            have hat : rnAt b = fst.1 := by simp only [rnAt, hv, hf]
            have hso2 : so = (rnAt b, k2) := Prod.ext (hk4.trans hat.symm) hk3
            have hfl4 : l2.length ≤ 4096 := by rw [hl2]; split; omega; exact Nat.zero_le _
            refine lw_val rfl (run_not rfl) ?_
            refine lw_nil ?_
            refine cw_if rfl ?_ ?_
            · intro h85
              replace h85 := not_b h85
              refine cw_region ?_
              first | refine lw_val rfl (run_assign (v := .slice _ _ _) rfl) ?_
              refine lw_nil ?_
              refine cw_seq ?_
              refine cw_region ?_
              first | refine lw_val rfl (run_move (v := .slice _ _ _) rfl) ?_
              first | refine lw_val rfl (run_move (v := .slice _ _ _) rfl) ?_
              refine lw_call rfl en22 (sameB_sl hs (la := numsL l) (lb := numsL l) (hs.rdOwn 7 rfl) (hs.rdOwn 6 rfl) rfl rfl (by omega)) ?_
              clear hs
              rintro _ w ⟨rfl, hs⟩
              first | refine lw_val rfl (run_move (v := .bool _) rfl) ?_
              refine lw_on rfl rfl (decide_eq_true rfl) ?_
              first | refine lw_val rfl (run_move (v := errV ad _) rfl) ?_ | refine lw_val rfl (run_move (v := .nilIface) rfl) ?_ | refine lw_val rfl (run_move (v := eV ad _ _) rfl) ?_ | refine lw_val rfl (run_move (v := .iface _ (.pointer (some _))) rfl) ?_
              refine lw_on rfl rfl (decide_eq_true rfl) ?_
              first | refine lw_val rfl (run_eqerrn (ad := ad) rfl) ?_ | refine lw_val rfl (run_eqnn rfl) ?_ | refine lw_val rfl (run_eqE (ad := ad) rfl) ?_
              first | refine lw_val rfl (run_pickT (v := .bool _) rfl (decide_eq_true rfl) rfl) ?_
              first | refine lw_val rfl (run_move (v := .bool _) rfl) ?_
              refine lw_on rfl rfl (rfl) ?_
              first | refine lw_val rfl (run_move (v := .slice _ _ _) rfl) ?_
              refine lw_on rfl rfl (rfl) ?_
              first | refine lw_val rfl (run_move (v := .slice _ _ _) rfl) ?_
              refine lw_on rfl rfl (rfl) ?_
              refine lw_call rfl en23 (sameL_sl hs (la := l) (lb := l) (hs.rdOwn 4 rfl) (h0.rd _) rfl rfl (by omega)) ?_
              clear hs
              rintro _ w ⟨rfl, hs⟩
              first | refine lw_val rfl (run_pickT (v := .bool _) rfl (rfl) rfl) ?_
              first | refine lw_val rfl (run_move (v := .bool _) rfl) ?_
              refine lw_on rfl rfl (decide_eq_true rfl) ?_
              first | refine lw_val rfl (run_move (v := .slice _ _ _) rfl) ?_
              refine lw_on rfl rfl (decide_eq_true rfl) ?_
              first | refine lw_val rfl (run_move (v := .slice _ _ _) rfl) ?_
              refine lw_on rfl rfl (decide_eq_true rfl) ?_
              refine lw_call rfl en23 (sameL_sl hs (la := l2) (lb := []) (hs.rdOwn 1 rfl) Rd.nil rfl rfl (by omega)) ?_
              clear hs
              rintro _ w ⟨rfl, hs⟩
              first | refine lw_val rfl (run_pickT (v := .bool _) rfl (decide_eq_true rfl) rfl) ?_
              first | refine lw_val rfl (run_move (v := .bool _) rfl) ?_
              refine lw_on rfl rfl (decide_eq_true (by rw [hl2, if_neg (of_decide_eq_false h85)])) ?_
              first | refine lw_val rfl (run_move (v := errV ad _) rfl) ?_ | refine lw_val rfl (run_move (v := .nilIface) rfl) ?_ | refine lw_val rfl (run_move (v := eV ad _ _) rfl) ?_ | refine lw_val rfl (run_move (v := .iface _ (.pointer (some _))) rfl) ?_
              refine lw_on rfl rfl (decide_eq_true (by rw [hl2, if_neg (of_decide_eq_false h85)])) ?_
              first | refine lw_val rfl (run_move (v := .pointer (some _)) rfl) ?_ | refine lw_val rfl (run_move (v := .pointer none) rfl) ?_
              refine lw_on rfl rfl (decide_eq_true (by rw [hl2, if_neg (of_decide_eq_false h85)])) ?_
              refine lw_val rfl (run_nilCheckP rfl) ?_
              refine lw_on rfl rfl (decide_eq_true (by rw [hl2, if_neg (of_decide_eq_false h85)])) ?_
              first | refine lw_val rfl (run_fieldAddr (o' := 2) Tryd.underlying37 rfl sz35 rfl rfl rfl) ?_ | refine lw_val rfl (run_fieldAddr Tryd.underlying37 rfl sz35 rfl rfl rfl) ?_
              refine lw_on rfl rfl (decide_eq_true (by rw [hl2, if_neg (of_decide_eq_false h85)])) ?_
              refine lw_val rfl (run_loadMid hs 0 ([.int .i64 so.2, .bool (plB so.2), .int .i64 (plQ so)]) rfl Tryd.underlying35 sz35 rfl rfl) ?_
              refine lw_on rfl rfl (decide_eq_true (by rw [hl2, if_neg (of_decide_eq_false h85)])) ?_
              refine lw_call rfl en24 (see_sl hA (hs.arr [2, 0, 1, 3] 4 (by decide)) hk2c _ _ _) ?_
              clear hs
              rintro _ w ⟨rfl, hs⟩
              first | refine lw_val rfl (run_pickT (v := .bool _) rfl (decide_eq_true (by rw [hl2, if_neg (of_decide_eq_false h85)])) rfl) ?_
              first | refine lw_val rfl (run_assign (v := .bool _) rfl) ?_
              refine lw_nil ?_
              refine cw_ret ?_
              refine res1 (v := .bool _) rfl rfl ?_
              exact ⟨_, rfl, ret_b (by rw [hso2]; simp), hs.nil⟩
            · intro h85
              replace h85 := not_c h85
              refine cw_skip ?_
              refine cw_seq ?_
              refine cw_region ?_
              first | refine lw_val rfl (run_move (v := .slice _ _ _) rfl) ?_
              first | refine lw_val rfl (run_move (v := .slice _ _ _) rfl) ?_
              refine lw_call rfl en22 (sameB_sl hs (la := numsL l) (lb := numsL l) (hs.rdOwn 7 rfl) (hs.rdOwn 6 rfl) rfl rfl (by omega)) ?_
              clear hs
              rintro _ w ⟨rfl, hs⟩
              first | refine lw_val rfl (run_move (v := .bool _) rfl) ?_
              refine lw_on rfl rfl (decide_eq_true rfl) ?_
              first | refine lw_val rfl (run_move (v := errV ad _) rfl) ?_ | refine lw_val rfl (run_move (v := .nilIface) rfl) ?_ | refine lw_val rfl (run_move (v := eV ad _ _) rfl) ?_ | refine lw_val rfl (run_move (v := .iface _ (.pointer (some _))) rfl) ?_
              refine lw_on rfl rfl (decide_eq_true rfl) ?_
              first | refine lw_val rfl (run_eqerrn (ad := ad) rfl) ?_ | refine lw_val rfl (run_eqnn rfl) ?_ | refine lw_val rfl (run_eqE (ad := ad) rfl) ?_
              first | refine lw_val rfl (run_pickT (v := .bool _) rfl (decide_eq_true rfl) rfl) ?_
              first | refine lw_val rfl (run_move (v := .bool _) rfl) ?_
              refine lw_on rfl rfl (rfl) ?_
              first | refine lw_val rfl (run_move (v := .slice _ _ _) rfl) ?_
              refine lw_on rfl rfl (rfl) ?_
              first | refine lw_val rfl (run_move (v := .slice _ _ _) rfl) ?_
              refine lw_on rfl rfl (rfl) ?_
              refine lw_call rfl en23 (sameL_sl hs (la := l) (lb := l) (hs.rdOwn 4 rfl) (h0.rd _) rfl rfl (by omega)) ?_
              clear hs
              rintro _ w ⟨rfl, hs⟩
              first | refine lw_val rfl (run_pickT (v := .bool _) rfl (rfl) rfl) ?_
              first | refine lw_val rfl (run_move (v := .bool _) rfl) ?_
              refine lw_on rfl rfl (decide_eq_true rfl) ?_
              first | refine lw_val rfl (run_move (v := .slice _ _ _) rfl) ?_
              refine lw_on rfl rfl (decide_eq_true rfl) ?_
              first | refine lw_val rfl (run_move (v := .slice _ _ _) rfl) ?_
              refine lw_on rfl rfl (decide_eq_true rfl) ?_
              refine lw_call rfl en23 (sameL_sl hs (la := l2) (lb := fo) (hs.rdOwn 1 rfl) (hs.rdOwn 3 rfl) rfl rfl (by omega)) ?_
              clear hs
              rintro _ w ⟨rfl, hs⟩
              first | refine lw_val rfl (run_pickT (v := .bool _) rfl (decide_eq_true rfl) rfl) ?_
              first | refine lw_val rfl (run_move (v := .bool _) rfl) ?_
              refine lw_on rfl rfl (decide_eq_true (by rw [hl2, if_pos (of_decide_eq_true h85)])) ?_
              first | refine lw_val rfl (run_move (v := errV ad _) rfl) ?_ | refine lw_val rfl (run_move (v := .nilIface) rfl) ?_ | refine lw_val rfl (run_move (v := eV ad _ _) rfl) ?_ | refine lw_val rfl (run_move (v := .iface _ (.pointer (some _))) rfl) ?_
              refine lw_on rfl rfl (decide_eq_true (by rw [hl2, if_pos (of_decide_eq_true h85)])) ?_
              first | refine lw_val rfl (run_move (v := .pointer (some _)) rfl) ?_ | refine lw_val rfl (run_move (v := .pointer none) rfl) ?_
              refine lw_on rfl rfl (decide_eq_true (by rw [hl2, if_pos (of_decide_eq_true h85)])) ?_
              refine lw_val rfl (run_nilCheckP rfl) ?_
              refine lw_on rfl rfl (decide_eq_true (by rw [hl2, if_pos (of_decide_eq_true h85)])) ?_
              first | refine lw_val rfl (run_fieldAddr (o' := 2) Tryd.underlying37 rfl sz35 rfl rfl rfl) ?_ | refine lw_val rfl (run_fieldAddr Tryd.underlying37 rfl sz35 rfl rfl rfl) ?_
              refine lw_on rfl rfl (decide_eq_true (by rw [hl2, if_pos (of_decide_eq_true h85)])) ?_
              refine lw_val rfl (run_loadMid hs 0 ([.int .i64 so.2, .bool (plB so.2), .int .i64 (plQ so)]) rfl Tryd.underlying35 sz35 rfl rfl) ?_
              refine lw_on rfl rfl (decide_eq_true (by rw [hl2, if_pos (of_decide_eq_true h85)])) ?_
              refine lw_call rfl en24 (see_sl hA (hs.arr [2, 0, 1, 3] 4 (by decide)) hk2c _ _ _) ?_
              clear hs
              rintro _ w ⟨rfl, hs⟩
              first | refine lw_val rfl (run_pickT (v := .bool _) rfl (decide_eq_true (by rw [hl2, if_pos (of_decide_eq_true h85)])) rfl) ?_
              first | refine lw_val rfl (run_assign (v := .bool _) rfl) ?_
              refine lw_nil ?_
              refine cw_ret ?_
              refine res1 (v := .bool _) rfl rfl ?_
              exact ⟨_, rfl, ret_b (by rw [hso2]; simp), hs.nil⟩
        · intro h65
          have g65 := of_decide_eq_false h65
          obtain rfl : i = m := by omega
          rw [Nat.sub_self] at hrl
          cases hrl
          replace hs := hs.arr [1, 0] 2 (by decide)
          refine lw_off rfl rfl rfl h65 ?_
          refine lw_off rfl rfl rfl h65 ?_
          first | refine lw_val rfl (run_pickF (v := .bool _) rfl h65 rfl) ?_
          refine lw_nil ?_
          refine cw_iff rfl rfl ?_
          refine cw_exit rfl ?_
          refine cw_seq ?_
          refine cw_region ?_
          first | refine lw_val rfl (run_move (v := .pointer (some _)) rfl) ?_ | refine lw_val rfl (run_move (v := .pointer none) rfl) ?_
          refine lw_call rfl en21 (rover_sl (k := 104) (by decide) hs rfl) ?_
          clear hs
          rintro _ w ⟨rfl, hs⟩
          refine lw_nil ?_
          obtain ⟨so, hso⟩ : ∃ so, overS b 104 fst = so := ⟨_, rfl⟩
          rw [hso] at hs hk3
          obtain ⟨hk3, hk4, hl2⟩ := hk3
          refine cw_seq ?_
          refine cw_region ?_
          first | refine lw_val rfl (run_move (v := .slice _ _ _) rfl) ?_
          refine lw_call rfl en17 (rnums_sl hE hs (h1.rd _) rfl (by omega) hk2) ?_
          clear hs
          rintro _ w ⟨a81, c81, eb2, rfl, _, hs⟩
          first | refine lw_val rfl (run_move (v := .tuple _) rfl) ?_
          first | refine lw_val rfl (run_extract (v := .slice _ _ _) rfl rfl) ?_
          first | refine lw_val rfl (run_extract (v := errV ad _) rfl rfl) ?_ | refine lw_val rfl (run_extract (v := .nilIface) rfl rfl) ?_ | refine lw_val rfl (run_extract (v := eV ad _ _) rfl rfl) ?_ | refine lw_val rfl (run_extract (v := .iface _ (.pointer (some _))) rfl rfl) ?_
          first | refine lw_val rfl (run_assign (v := .slice _ _ _) rfl) ?_
          first | refine lw_val rfl (run_assign (v := errV ad _) rfl) ?_ | refine lw_val rfl (run_assign (v := .nilIface) rfl) ?_ | refine lw_val rfl (run_assign (v := eV ad _ _) rfl) ?_ | refine lw_val rfl (run_assign (v := .iface _ (.pointer (some _))) rfl) ?_
          refine lw_nil ?_
          refine cw_seq ?_
          refine cw_seq ?_
          refine cw_region ?_
          first | refine lw_val rfl (run_move (v := .pointer (some _)) rfl) ?_ | refine lw_val rfl (run_move (v := .pointer none) rfl) ?_
          refine lw_call rfl en19 (rfine_sl (hs.arr [2, 0, 1, 3] 4 (by decide))) ?_
          clear hs
          rintro _ w ⟨rfl, hs⟩
          replace hs : Mem g w [refR b59 (.slice a1 b.length c1) so, own (.slice a81 l2.length c81) (intsL l2), errC ad eb2 (rnAt b) k2, own (.slice pa fo.length pc) (intsL fo), own (.slice a54 l.length c54) (intsL l), errC ad eb (rnAt (numsL l)) 0, own (.slice oa (vputL l.length ++ numsF l).length oc) (bytesL (numsL l)), own (.slice a34 (numsL l).length c34) (bytesL (numsL l))] := hs
          have hat : rnAt b = fst.1 := by simp only [rnAt, hv, hf]
          have hso2 : so = (rnAt b, k2) := Prod.ext (hk4.trans hat.symm) hk3
          have hfl4 : l2.length ≤ 4096 := by rw [hl2]; split; omega; exact Nat.zero_le _
          refine lw_val rfl (run_not rfl) ?_
          refine lw_nil ?_
          refine cw_if rfl ?_ ?_
          · intro h85
            replace h85 := not_b h85
            refine cw_region ?_
            first | refine lw_val rfl (run_assign (v := .slice _ _ _) rfl) ?_
            refine lw_nil ?_
            refine cw_seq ?_
            refine cw_region ?_
            first | refine lw_val rfl (run_move (v := .slice _ _ _) rfl) ?_
            first | refine lw_val rfl (run_move (v := .slice _ _ _) rfl) ?_
            refine lw_call rfl en22 (sameB_sl hs (la := numsL l) (lb := numsL l) (hs.rdOwn 7 rfl) (hs.rdOwn 6 rfl) rfl rfl (by omega)) ?_
            clear hs
            rintro _ w ⟨rfl, hs⟩
            first | refine lw_val rfl (run_move (v := .bool _) rfl) ?_
            refine lw_on rfl rfl (decide_eq_true rfl) ?_
            first | refine lw_val rfl (run_move (v := errV ad _) rfl) ?_ | refine lw_val rfl (run_move (v := .nilIface) rfl) ?_ | refine lw_val rfl (run_move (v := eV ad _ _) rfl) ?_ | refine lw_val rfl (run_move (v := .iface _ (.pointer (some _))) rfl) ?_
            refine lw_on rfl rfl (decide_eq_true rfl) ?_
            first | refine lw_val rfl (run_eqerrn (ad := ad) rfl) ?_ | refine lw_val rfl (run_eqnn rfl) ?_ | refine lw_val rfl (run_eqE (ad := ad) rfl) ?_
            first | refine lw_val rfl (run_pickT (v := .bool _) rfl (decide_eq_true rfl) rfl) ?_
            first | refine lw_val rfl (run_move (v := .bool _) rfl) ?_
            refine lw_on rfl rfl (rfl) ?_
            first | refine lw_val rfl (run_move (v := .slice _ _ _) rfl) ?_
            refine lw_on rfl rfl (rfl) ?_
            first | refine lw_val rfl (run_move (v := .slice _ _ _) rfl) ?_
            refine lw_on rfl rfl (rfl) ?_
            refine lw_call rfl en23 (sameL_sl hs (la := l) (lb := l) (hs.rdOwn 4 rfl) (h0.rd _) rfl rfl (by omega)) ?_
            clear hs
            rintro _ w ⟨rfl, hs⟩
            first | refine lw_val rfl (run_pickT (v := .bool _) rfl (rfl) rfl) ?_
            first | refine lw_val rfl (run_move (v := .bool _) rfl) ?_
            refine lw_on rfl rfl (decide_eq_true rfl) ?_
            first | refine lw_val rfl (run_move (v := .slice _ _ _) rfl) ?_
            refine lw_on rfl rfl (decide_eq_true rfl) ?_
            first | refine lw_val rfl (run_move (v := .slice _ _ _) rfl) ?_
            refine lw_on rfl rfl (decide_eq_true rfl) ?_
            refine lw_call rfl en23 (sameL_sl hs (la := l2) (lb := []) (hs.rdOwn 1 rfl) Rd.nil rfl rfl (by omega)) ?_
            clear hs
            rintro _ w ⟨rfl, hs⟩
            first | refine lw_val rfl (run_pickT (v := .bool _) rfl (decide_eq_true rfl) rfl) ?_
            first | refine lw_val rfl (run_move (v := .bool _) rfl) ?_
            refine lw_on rfl rfl (decide_eq_true (by rw [hl2, if_neg (of_decide_eq_false h85)])) ?_
            first | refine lw_val rfl (run_move (v := errV ad _) rfl) ?_ | refine lw_val rfl (run_move (v := .nilIface) rfl) ?_ | refine lw_val rfl (run_move (v := eV ad _ _) rfl) ?_ | refine lw_val rfl (run_move (v := .iface _ (.pointer (some _))) rfl) ?_
            refine lw_on rfl rfl (decide_eq_true (by rw [hl2, if_neg (of_decide_eq_false h85)])) ?_
            first | refine lw_val rfl (run_move (v := .pointer (some _)) rfl) ?_ | refine lw_val rfl (run_move (v := .pointer none) rfl) ?_
            refine lw_on rfl rfl (decide_eq_true (by rw [hl2, if_neg (of_decide_eq_false h85)])) ?_
            refine lw_val rfl (run_nilCheckP rfl) ?_
            refine lw_on rfl rfl (decide_eq_true (by rw [hl2, if_neg (of_decide_eq_false h85)])) ?_
            first | refine lw_val rfl (run_fieldAddr (o' := 2) Tryd.underlying37 rfl sz35 rfl rfl rfl) ?_ | refine lw_val rfl (run_fieldAddr Tryd.underlying37 rfl sz35 rfl rfl rfl) ?_
            refine lw_on rfl rfl (decide_eq_true (by rw [hl2, if_neg (of_decide_eq_false h85)])) ?_
            refine lw_val rfl (run_loadMid hs 0 ([.int .i64 so.2, .bool (plB so.2), .int .i64 (plQ so)]) rfl Tryd.underlying35 sz35 rfl rfl) ?_
            refine lw_on rfl rfl (decide_eq_true (by rw [hl2, if_neg (of_decide_eq_false h85)])) ?_
            refine lw_call rfl en24 (see_sl hA (hs.arr [2, 0, 1, 3] 4 (by decide)) hk2c _ _ _) ?_
            clear hs
            rintro _ w ⟨rfl, hs⟩
            first | refine lw_val rfl (run_pickT (v := .bool _) rfl (decide_eq_true (by rw [hl2, if_neg (of_decide_eq_false h85)])) rfl) ?_
            first | refine lw_val rfl (run_assign (v := .bool _) rfl) ?_
            refine lw_nil ?_
            refine cw_ret ?_
            refine res1 (v := .bool _) rfl rfl ?_
            exact ⟨_, rfl, ret_b (by rw [hso2]; simp), hs.nil⟩
          · intro h85
            replace h85 := not_c h85
            refine cw_skip ?_
            refine cw_seq ?_
            refine cw_region ?_
            first | refine lw_val rfl (run_move (v := .slice _ _ _) rfl) ?_
            first | refine lw_val rfl (run_move (v := .slice _ _ _) rfl) ?_
            refine lw_call rfl en22 (sameB_sl hs (la := numsL l) (lb := numsL l) (hs.rdOwn 7 rfl) (hs.rdOwn 6 rfl) rfl rfl (by omega)) ?_
            clear hs
            rintro _ w ⟨rfl, hs⟩
            first | refine lw_val rfl (run_move (v := .bool _) rfl) ?_
            refine lw_on rfl rfl (decide_eq_true rfl) ?_
            first | refine lw_val rfl (run_move (v := errV ad _) rfl) ?_ | refine lw_val rfl (run_move (v := .nilIface) rfl) ?_ | refine lw_val rfl (run_move (v := eV ad _ _) rfl) ?_ | refine lw_val rfl (run_move (v := .iface _ (.pointer (some _))) rfl) ?_
            refine lw_on rfl rfl (decide_eq_true rfl) ?_
            first | refine lw_val rfl (run_eqerrn (ad := ad) rfl) ?_ | refine lw_val rfl (run_eqnn rfl) ?_ | refine lw_val rfl (run_eqE (ad := ad) rfl) ?_
            first | refine lw_val rfl (run_pickT (v := .bool _) rfl (decide_eq_true rfl) rfl) ?_
            first | refine lw_val rfl (run_move (v := .bool _) rfl) ?_
            refine lw_on rfl rfl (rfl) ?_
            first | refine lw_val rfl (run_move (v := .slice _ _ _) rfl) ?_
            refine lw_on rfl rfl (rfl) ?_
            first | refine lw_val rfl (run_move (v := .slice _ _ _) rfl) ?_
            refine lw_on rfl rfl (rfl) ?_
            refine lw_call rfl en23 (sameL_sl hs (la := l) (lb := l) (hs.rdOwn 4 rfl) (h0.rd _) rfl rfl (by omega)) ?_
            clear hs
            rintro _ w ⟨rfl, hs⟩
            first | refine lw_val rfl (run_pickT (v := .bool _) rfl (rfl) rfl) ?_
            first | refine lw_val rfl (run_move (v := .bool _) rfl) ?_
            refine lw_on rfl rfl (decide_eq_true rfl) ?_
            first | refine lw_val rfl (run_move (v := .slice _ _ _) rfl) ?_
            refine lw_on rfl rfl (decide_eq_true rfl) ?_
            first | refine lw_val rfl (run_move (v := .slice _ _ _) rfl) ?_
            refine lw_on rfl rfl (decide_eq_true rfl) ?_
            refine lw_call rfl en23 (sameL_sl hs (la := l2) (lb := fo) (hs.rdOwn 1 rfl) (hs.rdOwn 3 rfl) rfl rfl (by omega)) ?_
            clear hs
            rintro _ w ⟨rfl, hs⟩
            first | refine lw_val rfl (run_pickT (v := .bool _) rfl (decide_eq_true rfl) rfl) ?_
            first | refine lw_val rfl (run_move (v := .bool _) rfl) ?_
            refine lw_on rfl rfl (decide_eq_true (by rw [hl2, if_pos (of_decide_eq_true h85)])) ?_
            first | refine lw_val rfl (run_move (v := errV ad _) rfl) ?_ | refine lw_val rfl (run_move (v := .nilIface) rfl) ?_ | refine lw_val rfl (run_move (v := eV ad _ _) rfl) ?_ | refine lw_val rfl (run_move (v := .iface _ (.pointer (some _))) rfl) ?_
            refine lw_on rfl rfl (decide_eq_true (by rw [hl2, if_pos (of_decide_eq_true h85)])) ?_
            first | refine lw_val rfl (run_move (v := .pointer (some _)) rfl) ?_ | refine lw_val rfl (run_move (v := .pointer none) rfl) ?_
            refine lw_on rfl rfl (decide_eq_true (by rw [hl2, if_pos (of_decide_eq_true h85)])) ?_
            refine lw_val rfl (run_nilCheckP rfl) ?_
            refine lw_on rfl rfl (decide_eq_true (by rw [hl2, if_pos (of_decide_eq_true h85)])) ?_
            first | refine lw_val rfl (run_fieldAddr (o' := 2) Tryd.underlying37 rfl sz35 rfl rfl rfl) ?_ | refine lw_val rfl (run_fieldAddr Tryd.underlying37 rfl sz35 rfl rfl rfl) ?_
            refine lw_on rfl rfl (decide_eq_true (by rw [hl2, if_pos (of_decide_eq_true h85)])) ?_
            refine lw_val rfl (run_loadMid hs 0 ([.int .i64 so.2, .bool (plB so.2), .int .i64 (plQ so)]) rfl Tryd.underlying35 sz35 rfl rfl) ?_
            refine lw_on rfl rfl (decide_eq_true (by rw [hl2, if_pos (of_decide_eq_true h85)])) ?_
            refine lw_call rfl en24 (see_sl hA (hs.arr [2, 0, 1, 3] 4 (by decide)) hk2c _ _ _) ?_
            clear hs
            rintro _ w ⟨rfl, hs⟩
            first | refine lw_val rfl (run_pickT (v := .bool _) rfl (decide_eq_true (by rw [hl2, if_pos (of_decide_eq_true h85)])) rfl) ?_
            first | refine lw_val rfl (run_assign (v := .bool _) rfl) ?_
            refine lw_nil ?_
            refine cw_ret ?_
            refine res1 (v := .bool _) rfl rfl ?_
            exact ⟨_, rfl, ret_b (by rw [hso2]; simp), hs.nil⟩
end Go.Proofs.YtmnfehbnjgmgjaaDoor
