/- Chapter 8: the example. -/
import Derived.Test.YtmnfehbnjgmgjaaDoorVp
namespace Go.Proofs.YtmnfehbnjgmgjaaDoor
set_option linter.all false
open Go.RowKit
attribute [local irreducible] errV
variable {g w : World} {L M : List HP} {ad : Nat → Addr}

theorem first8_sl (hs : Mem g w L) : Calls Tryd.prog 13 #[] w (Ret fun v w' => v = .bool true ∧ Mem g w' L) := by
  have hN : ∀ {w : World} {b : Nat} {M : List HP}, Mem g w (cells b (intsL [-1]) 2 :: M) → Calls Tryd.prog 14 #[.slice (some ⟨b, 0, none⟩) 1 1] w (Ret fun v w' => ∃ a c, v = .slice a 2 c ∧ Mem g w' (own (.slice a 2 c) (bytesL [1, 1]) :: cells b (intsL [-1]) 2 :: M)) := by
    intro w b M hs
    refine calls_cw Tryd.func14 rfl rfl ?_
    skip
    refine cw_seq ?_
    refine cw_region ?_
    first | refine lw_val rfl (run_assign (v := .slice _ _ _) rfl) ?_
    refine lw_nil ?_
    refine cw_seq ?_
    refine cw_region ?_
    first | refine lw_val rfl (run_move (v := .slice _ _ _) rfl) ?_
    refine lw_val rfl (run_lenS Tryd.underlying22 rfl) ?_
    refine lw_val rfl (run_convIn Tryd.underlying3 Tryd.underlying27 rfl (c := 1) (by decide)) ?_
    refine lw_call rfl en57 (vput_sl hs (lb := []) (n := 1) Rd.nil rfl (by decide) (by decide)) ?_
    clear hs
    rintro _ w ⟨a9, c9, rfl, hs⟩
    first | refine lw_val rfl (run_assign (v := .slice _ _ _) rfl) ?_
    refine lw_nil ?_
    refine cw_seq ?_
    refine cw_seq ?_
    refine cw_region ?_
    first | refine lw_val rfl (run_move (v := .slice _ _ _) rfl) ?_
    refine lw_val rfl (run_lenS Tryd.underlying22 rfl) ?_
    first | refine lw_val rfl (run_move (v := .int .i64 _) rfl) ?_
    refine lw_nil ?_
    refine cw_block ?_
    refine cw_loop (X := Nat × Option Addr × Nat) [3, 5, 12, 13, 14, 15, 16, 17, 18, 19] (fun x => [(3, .slice x.2.1 (1 + x.1) x.2.2), (12, .int .i64 (x.1 : Nat))]) (fun x w => x.1 ≤ 1 ∧ Mem g w (own (.slice x.2.1 (1 + x.1) x.2.2) (bytesL (List.replicate (1 + x.1) 1)) :: cells b (intsL [-1]) 2 :: M)) (fun x => 1 - x.1) ((0, a9, c9)) ?_ ?_ ?_
    · exact ⟨rfl, rfl, trivial⟩
    · exact ⟨Nat.zero_le _, hs⟩
    clear hs
    rintro x ξ w hI
    obtain ⟨i, oa, oc⟩ := x
    obtain ⟨hi, hs⟩ := hI
    simp only at hi hs
    show cw _ _ _ _ _ _ (updL (mix _ ξ _) [(3, .slice oa (1 + i) oc), (12, .int .i64 (i : Nat))]) w
    refine cw_seq ?_
    refine cw_region ?_
    refine lw_val rfl (run_lss rfl rfl) ?_
    refine lw_nil ?_
    refine cw_seq ?_
    refine cw_if rfl ?_ ?_
    · intro h13
      have g13 := of_decide_eq_true h13
      obtain rfl : i = 0 := by omega
      refine cw_skip ?_
      refine cw_seq ?_
      refine cw_block ?_
      refine cw_seq ?_
      refine cw_region ?_
      refine lw_val rfl (run_indexAddr Tryd.underlying22 sz2 rfl rfl rfl (by omega) rfl) ?_
      refine lw_val rfl (run_load (v := .int .i64 (-1)) Tryd.underlying2 rfl rfl (hs.cellAt 1 rfl rfl)) ?_
      first | refine lw_val rfl (run_assign (v := .int .i64 _) rfl) ?_
      refine lw_nil ?_
      refine cw_region ?_
      first | refine lw_val rfl (run_move (v := .slice _ _ _) rfl) ?_
      first | refine lw_val rfl (run_move (v := .int .i64 _) rfl) ?_
      refine lw_call rfl en58 (putint_sl hs (lb := [1]) (z := 1) (u := 18446744073709551615) (v := 18446744073709551614) (q := -1) (x := 18446744073709551615) (hs.rdOwn 0 rfl) rfl (by decide) (by decide) (by decide) (by decide) (by decide) (by decide +kernel) (by decide)) ?_
      clear hs
      rintro _ w ⟨a18, c18, rfl, hs⟩
      first | refine lw_val rfl (run_assign (v := .slice _ _ _) rfl) ?_
      refine lw_nil ?_
      refine cw_region ?_
      refine lw_val rfl (run_add64 rfl rfl rfl (inI (by omega) (by omega))) ?_
      first | refine lw_val rfl (run_move (v := .int .i64 _) rfl) ?_
      refine lw_nil ?_
      exact ⟨(1, a18, c18), (show 1 - 1 < 1 - 0 by decide), ⟨Nat.le_refl _, hs.drop 1⟩, ⟨rfl, rfl, trivial⟩, by repeat (first | exact Out.mix _ _ _ | refine Out.updo rfl ?_ | refine Out.upd rfl ?_ | refine Out.mixIn rfl ?_)⟩
    · intro h13
      have g13 := of_decide_eq_false h13
      refine cw_exit rfl ?_
      refine cw_seq ?_
      refine cw_region ?_
      first | refine lw_val rfl (run_move (v := .slice _ _ _) rfl) ?_
      first | refine lw_val rfl (run_assign (v := .slice _ _ _) rfl) ?_
      refine lw_nil ?_
      refine cw_ret ?_
      refine res1 (v := .slice _ _ _) rfl rfl ?_
      obtain rfl : i = 1 := by omega
      exact ⟨_, rfl, oa, oc, rfl, hs⟩
  refine calls_cw Tryd.func13 rfl rfl ?_
  skip
  refine cw_seq ?_
  refine cw_region ?_
  first | refine lw_val rfl (run_assign (v := .bool _) rfl) ?_
  refine lw_nil ?_
  refine cw_seq ?_
  refine cw_region ?_
  refine lw_buildSlice hs rfl ((intsL [-1])) Tryd.underlying22 zs2 rfl (cells_one (intsL_one _)) rfl rfl rfl ?_
  clear hs
  intro b1 w hs
  try simp only [List.set_cons_succ, List.set_cons_zero] at hs
  refine lw_call rfl en14 (hN hs) ?_
  clear hs
  rintro _ w ⟨a2, c2, rfl, hs⟩
  refine lw_buildSlice hs rfl ((bytesL [1, 1])) Tryd.underlying23 zs5 rfl (cells_one (bytesL_one _)) rfl rfl rfl ?_
  clear hs
  intro b3 w hs
  try simp only [List.set_cons_succ, List.set_cons_zero] at hs
  refine lw_call rfl en22 (sameB_sl hs (la := [1, 1]) (lb := [1, 1]) (hs.rdOwn 1 rfl) (Rd.cells (n := 2) 0 rfl rfl) rfl rfl (by decide)) ?_
  clear hs
  rintro _ w ⟨rfl, hs⟩
  first | refine lw_val rfl (run_assign (v := .bool _) rfl) ?_
  refine lw_nil ?_
  refine cw_ret ?_
  refine res1 (v := .bool _) rfl rfl ?_
  exact ⟨_, rfl, rfl, hs.suffix 3 rfl⟩
end Go.Proofs.YtmnfehbnjgmgjaaDoor
