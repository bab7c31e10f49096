/- How a view's manifests are compared. -/
import Derived.Test.YtkogkokmcmallaaGreatDoorFl
import Derived.Test.YtkogkokmcmallaaGreatDoorG
namespace Go.Proofs.YtkogkokmcmallaaGreatDoor
set_option linter.all false
open Go.RowKit
attribute [local irreducible] errV
variable {g w : World} {L M : List HP} {ad : Nat → Addr} {p : Nat}

def cmpI (a b : Int) : Int := if a < b then -1 else if b < a then 1 else 0
def cmpM (x y : Mf) : Int := if cmpI x.base y.base ≠ 0 then cmpI x.base y.base else x.id - y.id
theorem nan_sl (hs : Mem g w L) (a : Int) : Calls Tryz.prog 246 #[.int .i64 a] w (Ret fun v w' => v = .bool false ∧ Mem g w' L) := by
  refine calls_cw Tryz.func246 rfl rfl ?_
  skip
  refine cw_seq ?_
  refine cw_region ?_
  first | refine lw_val rfl (run_assign (v := .bool _) rfl) ?_
  refine lw_nil ?_
  refine cw_seq ?_
  refine cw_region ?_
  first | refine lw_val rfl (run_move (v := .int .i64 _) rfl) ?_
  first | refine lw_val rfl (run_move (v := .int .i64 _) rfl) ?_
  refine lw_val rfl (run_nei rfl rfl) ?_
  first | refine lw_val rfl (run_assign (v := .bool _) rfl) ?_
  refine lw_nil ?_
  refine cw_ret ?_
  refine res1 (v := .bool _) rfl rfl ?_
  exact ⟨_, rfl, ret_b (by simp), hs⟩
theorem cmpC_sl (hs : Mem g w L) (a b : Int) : Calls Tryz.prog 218 #[.int .i64 a, .int .i64 b] w (Ret fun v w' => v = .int .i64 (cmpI a b) ∧ Mem g w' L) := by
  refine calls_cw Tryz.func218 rfl rfl ?_
  skip
  refine cw_seq ?_
  refine cw_region ?_
  first | refine lw_val rfl (run_assign (v := .int .i64 _) rfl) ?_
  refine lw_nil ?_
  refine cw_seq ?_
  refine cw_region ?_
  first | refine lw_val rfl (run_move (v := .int .i64 _) rfl) ?_
  refine lw_call rfl en246 (nan_sl hs a) ?_
  clear hs
  rintro _ w ⟨rfl, hs⟩
  first | refine lw_val rfl (run_assign (v := .bool _) rfl) ?_
  refine lw_nil ?_
  refine cw_seq ?_
  refine cw_region ?_
  first | refine lw_val rfl (run_move (v := .int .i64 _) rfl) ?_
  refine lw_call rfl en246 (nan_sl hs b) ?_
  clear hs
  rintro _ w ⟨rfl, hs⟩
  first | refine lw_val rfl (run_assign (v := .bool _) rfl) ?_
  refine lw_nil ?_
  refine cw_seq ?_
  refine cw_seq ?_
  refine cw_region ?_
  first | refine lw_val rfl (run_move (v := .bool _) rfl) ?_
  refine lw_nil ?_
  refine cw_iff rfl (rfl) ?_
  refine cw_skip ?_
  refine cw_seq ?_
  refine cw_seq ?_
  refine cw_region ?_
  first | refine lw_val rfl (run_move (v := .bool _) rfl) ?_
  refine lw_nil ?_
  refine cw_iff rfl (rfl) ?_
  refine cw_skip ?_
  refine cw_seq ?_
  refine cw_seq ?_
  refine cw_region ?_
  first | refine lw_val rfl (run_move (v := .int .i64 _) rfl) ?_
  first | refine lw_val rfl (run_move (v := .int .i64 _) rfl) ?_
  refine lw_val rfl (run_lss rfl rfl) ?_
  refine lw_nil ?_
  refine cw_if rfl ?_ ?_
  · intro h16
    have g16 := of_decide_eq_true h16
    refine cw_seq ?_
    refine cw_region ?_
    first | refine lw_val rfl (run_assign (v := .int .i64 _) rfl) ?_
    refine lw_nil ?_
    refine cw_ret ?_
    refine res1 (v := .int .i64 _) rfl rfl ?_
    exact ⟨_, rfl, ret_i (by rw [cmpI, if_pos g16]), hs⟩
  · intro h16
    have g16 := of_decide_eq_false h16
    refine cw_skip ?_
    refine cw_seq ?_
    refine cw_seq ?_
    refine cw_region ?_
    first | refine lw_val rfl (run_move (v := .int .i64 _) rfl) ?_
    first | refine lw_val rfl (run_move (v := .int .i64 _) rfl) ?_
    refine lw_val rfl (run_gtr rfl rfl) ?_
    refine lw_nil ?_
    refine cw_if rfl ?_ ?_
    · intro h19
      have g19 := of_decide_eq_true h19
      refine cw_seq ?_
      refine cw_region ?_
      first | refine lw_val rfl (run_assign (v := .int .i64 _) rfl) ?_
      refine lw_nil ?_
      refine cw_ret ?_
      refine res1 (v := .int .i64 _) rfl rfl ?_
      exact ⟨_, rfl, ret_i (by rw [cmpI, if_neg g16, if_pos g19]), hs⟩
    · intro h19
      have g19 := of_decide_eq_false h19
      refine cw_skip ?_
      refine cw_seq ?_
      refine cw_region ?_
      first | refine lw_val rfl (run_assign (v := .int .i64 _) rfl) ?_
      refine lw_nil ?_
      refine cw_ret ?_
      refine res1 (v := .int .i64 _) rfl rfl ?_
      exact ⟨_, rfl, ret_i (by rw [cmpI, if_neg g16, if_neg g19]), hs⟩
theorem or_sl (hs : Mem g w L) {a : Option Addr} {n c : Nat} {u t : Int} (hr : Rd g L (.slice a n c) (intsL [u, t])) (hn : n = 2) : Calls Tryz.prog 217 #[.slice a n c] w (Ret fun v w' => v = .int .i64 (if u ≠ 0 then u else t) ∧ Mem g w' L) := by
  subst hn
  obtain ⟨b1, o1, rfl, _⟩ := hr.cells' hs (by rw [intsL_len]; exact Nat.zero_lt_succ _)
  refine calls_cw Tryz.func217 rfl rfl ?_
  skip
  refine cw_seq ?_
  refine cw_region ?_
  first | refine lw_val rfl (run_assign (v := .int .i64 _) rfl) ?_
  refine lw_nil ?_
  refine cw_seq ?_
  refine cw_region ?_
  first | refine lw_val rfl (run_assign (v := .int .i64 _) rfl) ?_
  refine lw_nil ?_
  refine cw_seq ?_
  refine cw_seq ?_
  refine cw_region ?_
  first | refine lw_val rfl (run_move (v := .slice _ _ _) rfl) ?_
  refine lw_val rfl (run_lenS Tryz.underlying22 rfl) ?_
  first | refine lw_val rfl (run_move (v := .int .i64 _) rfl) ?_
  refine lw_nil ?_
  refine cw_block ?_
  refine cw_loop (X := Nat) [2, 5, 8, 9, 10, 11, 12, 13, 14, 15, 16] (fun k => [(8, .int .i64 (k : Nat))]) (fun k w => k ≤ 2 ∧ (1 ≤ k → u = 0) ∧ (2 ≤ k → t = 0) ∧ Mem g w L) (fun k => 2 - k) (0) ?_ ?_ ?_
  · exact ⟨rfl, trivial⟩
  · exact ⟨Nat.zero_le _, fun h => by omega, fun h => by omega, hs⟩
  clear hs
  rintro x ξ w hI
  obtain ⟨hk, h1, h2, hs⟩ := hI
  refine cw_seq ?_
  refine cw_region ?_
  refine lw_val rfl (run_lss rfl rfl) ?_
  refine lw_nil ?_
  refine cw_seq ?_
  refine cw_if rfl ?_ ?_
  · intro h9
    have g9 := of_decide_eq_true h9
    obtain ⟨z, hz, hzz⟩ : ∃ z, [u, t][x]? = some z ∧ (x = 0 ∧ z = u ∨ x = 1 ∧ z = t) := by obtain rfl | rfl : x = 0 ∨ x = 1 := (by omega); exact ⟨u, rfl, .inl ⟨rfl, rfl⟩⟩; exact ⟨t, rfl, .inr ⟨rfl, rfl⟩⟩
    refine cw_skip ?_
    refine cw_seq ?_
    refine cw_block ?_
    refine cw_seq ?_
    refine cw_region ?_
    refine lw_val rfl (run_indexAddr Tryz.underlying22 sz3 rfl rfl rfl (by omega) rfl) ?_
    refine lw_val rfl (run_load Tryz.underlying3 rfl rfl (hr.cellAt hs (intsL_at hz))) ?_
    first | refine lw_val rfl (run_assign (v := .int .i64 _) rfl) ?_
    refine lw_nil ?_
    refine cw_seq ?_
    refine cw_region ?_
    first | refine lw_val rfl (run_move (v := .int .i64 _) rfl) ?_
    first | refine lw_val rfl (run_move (v := .int .i64 _) rfl) ?_
    refine lw_val rfl (run_nei rfl rfl) ?_
    refine lw_nil ?_
    refine cw_if rfl ?_ ?_
    · intro h14
      have g14 := ne_t h14
      refine cw_seq ?_
      refine cw_region ?_
      first | refine lw_val rfl (run_move (v := .int .i64 _) rfl) ?_
      first | refine lw_val rfl (run_assign (v := .int .i64 _) rfl) ?_
      refine lw_nil ?_
      refine cw_ret ?_
      refine res1 (v := .int .i64 _) rfl rfl ?_
      exact ⟨_, rfl, ret_i (by rcases hzz with ⟨rfl, rfl⟩ | ⟨rfl, rfl⟩; rw [if_pos g14]; rw [if_neg (by have := h1 (Nat.le_refl _); omega)]), hs⟩
    · intro h14
      have g14 := ne_f h14
      refine cw_skip ?_
      refine cw_region ?_
      refine lw_val rfl (run_add64 rfl rfl rfl (inI (by omega) (by omega))) ?_
      first | refine lw_val rfl (run_move (v := .int .i64 _) rfl) ?_
      refine lw_nil ?_
      exact ⟨x + 1, by omega, ⟨by omega, (fun h => by rcases hzz with ⟨rfl, rfl⟩ | ⟨rfl, rfl⟩; omega; exact h1 (by omega)), (fun h => by rcases hzz with ⟨rfl, rfl⟩ | ⟨rfl, rfl⟩; omega; omega), hs⟩, ⟨rfl, trivial⟩, by repeat (first | exact Out.mix _ _ _ | refine Out.updo rfl ?_ | refine Out.upd rfl ?_ | refine Out.mixIn rfl ?_)⟩
  · intro h9
    have g9 := of_decide_eq_false h9
    refine cw_exit rfl ?_
    refine cw_seq ?_
    refine cw_region ?_
    first | refine lw_val rfl (run_move (v := .int .i64 _) rfl) ?_
    first | refine lw_val rfl (run_assign (v := .int .i64 _) rfl) ?_
    refine lw_nil ?_
    refine cw_ret ?_
    refine res1 (v := .int .i64 _) rfl rfl ?_
    exact ⟨_, rfl, ret_i (by rw [if_neg (by have := h1 (by omega); omega)]; exact (h2 (by omega)).symm), hs⟩
theorem cmpM_sl (hs : Mem g w L) {x y : Mf} {e o e2 o2 : SA} (hx : 0 ≤ x.id ∧ x.id ≤ 2147483647) (hy : 0 ≤ y.id ∧ y.id ≤ 2147483647) : Calls Tryz.prog 216 #[.agg (mfL x e o).toArray, .agg (mfL y e2 o2).toArray] w (Ret fun v w' => v = .int .i64 (cmpM x y) ∧ Mem g w' L) := by
  refine calls_cw Tryz.func216 rfl rfl ?_
  skip
  refine cw_seq ?_
  refine cw_region ?_
  first | refine lw_box (v := .agg _) hs rfl rfl ?_
  clear hs
  intro b2 w hs
  try simp only [List.set_cons_succ, List.set_cons_zero] at hs
  first | refine lw_box (v := .agg _) hs rfl rfl ?_
  clear hs
  intro b3 w hs
  try simp only [List.set_cons_succ, List.set_cons_zero] at hs
  first | refine lw_val rfl (run_assign (v := .int .i64 _) rfl) ?_
  refine lw_nil ?_
  refine cw_seq ?_
  refine cw_drawS mixes hs ?_
  intro w tr hK
  replace hs := tr _ hs
  clear tr
  first | refine aw_take 0 rfl (by kernel_rfl) (by kernel_rfl) (by kernel_rfl) rfl (fun w hs => run_fieldAddr (o' := 1) Tryz.underlying36 rfl sz2 rfl rfl rfl) hK ?_ | refine aw_take 0 rfl (by kernel_rfl) (by kernel_rfl) (by kernel_rfl) rfl (fun w hs => run_fieldAddr Tryz.underlying36 rfl sz2 rfl rfl rfl) hK ?_
  first | refine aw_take 1 rfl (by kernel_rfl) (by kernel_rfl) (by kernel_rfl) rfl (fun w hs => run_load Tryz.underlying2 rfl rfl (hs.cellAt 0 rfl rfl)) hK ?_ | refine aw_take 1 rfl (by kernel_rfl) (by kernel_rfl) (by kernel_rfl) rfl (fun w hs => run_load Tryz.underlying2 rfl rfl (hs.cellAt 1 rfl rfl)) hK ?_ | refine aw_take 1 rfl (by kernel_rfl) (by kernel_rfl) (by kernel_rfl) rfl (fun w hs => run_load Tryz.underlying2 rfl rfl (hs.cellAt 2 rfl rfl)) hK ?_ | refine aw_take 1 rfl (by kernel_rfl) (by kernel_rfl) (by kernel_rfl) rfl (fun w hs => run_load Tryz.underlying2 rfl rfl (hs.cellAt 3 rfl rfl)) hK ?_ | refine aw_take 1 rfl (by kernel_rfl) (by kernel_rfl) (by kernel_rfl) rfl (fun w hs => run_load Tryz.underlying2 rfl rfl (hs.cellAt 4 rfl rfl)) hK ?_ | refine aw_take 1 rfl (by kernel_rfl) (by kernel_rfl) (by kernel_rfl) rfl (fun w hs => run_load Tryz.underlying2 rfl rfl (hs.cellAt 5 rfl rfl)) hK ?_ | refine aw_take 1 rfl (by kernel_rfl) (by kernel_rfl) (by kernel_rfl) rfl (fun w hs => run_load Tryz.underlying2 rfl rfl (hs.cellAt 6 rfl rfl)) hK ?_ | refine aw_take 1 rfl (by kernel_rfl) (by kernel_rfl) (by kernel_rfl) rfl (fun w hs => run_load Tryz.underlying2 rfl rfl (hs.cellAt 7 rfl rfl)) hK ?_ | refine aw_take 1 rfl (by kernel_rfl) (by kernel_rfl) (by kernel_rfl) rfl (fun w hs => run_load Tryz.underlying2 rfl rfl (hs.cellAt 8 rfl rfl)) hK ?_ | refine aw_take 1 rfl (by kernel_rfl) (by kernel_rfl) (by kernel_rfl) rfl (fun w hs => run_load Tryz.underlying2 rfl rfl (hs.cellAt 9 rfl rfl)) hK ?_ | refine aw_take 1 rfl (by kernel_rfl) (by kernel_rfl) (by kernel_rfl) rfl (fun w hs => run_load Tryz.underlying2 rfl rfl (hs.cellAt 10 rfl rfl)) hK ?_ | refine aw_take 1 rfl (by kernel_rfl) (by kernel_rfl) (by kernel_rfl) rfl (fun w hs => run_load Tryz.underlying2 rfl rfl (hs.cellAt 11 rfl rfl)) hK ?_ | refine aw_take 1 rfl (by kernel_rfl) (by kernel_rfl) (by kernel_rfl) rfl (fun w hs => run_load Tryz.underlying2 rfl rfl (hs.cellAt 12 rfl rfl)) hK ?_ | refine aw_take 1 rfl (by kernel_rfl) (by kernel_rfl) (by kernel_rfl) rfl (fun w hs => run_load Tryz.underlying2 rfl rfl (hs.cellAt 13 rfl rfl)) hK ?_
  first | refine aw_take 2 rfl (by kernel_rfl) (by kernel_rfl) (by kernel_rfl) rfl (fun w hs => run_fieldAddr (o' := 1) Tryz.underlying36 rfl sz2 rfl rfl rfl) hK ?_ | refine aw_take 2 rfl (by kernel_rfl) (by kernel_rfl) (by kernel_rfl) rfl (fun w hs => run_fieldAddr Tryz.underlying36 rfl sz2 rfl rfl rfl) hK ?_
  first | refine aw_take 3 rfl (by kernel_rfl) (by kernel_rfl) (by kernel_rfl) rfl (fun w hs => run_load Tryz.underlying2 rfl rfl (hs.cellAt 0 rfl rfl)) hK ?_ | refine aw_take 3 rfl (by kernel_rfl) (by kernel_rfl) (by kernel_rfl) rfl (fun w hs => run_load Tryz.underlying2 rfl rfl (hs.cellAt 1 rfl rfl)) hK ?_ | refine aw_take 3 rfl (by kernel_rfl) (by kernel_rfl) (by kernel_rfl) rfl (fun w hs => run_load Tryz.underlying2 rfl rfl (hs.cellAt 2 rfl rfl)) hK ?_ | refine aw_take 3 rfl (by kernel_rfl) (by kernel_rfl) (by kernel_rfl) rfl (fun w hs => run_load Tryz.underlying2 rfl rfl (hs.cellAt 3 rfl rfl)) hK ?_ | refine aw_take 3 rfl (by kernel_rfl) (by kernel_rfl) (by kernel_rfl) rfl (fun w hs => run_load Tryz.underlying2 rfl rfl (hs.cellAt 4 rfl rfl)) hK ?_ | refine aw_take 3 rfl (by kernel_rfl) (by kernel_rfl) (by kernel_rfl) rfl (fun w hs => run_load Tryz.underlying2 rfl rfl (hs.cellAt 5 rfl rfl)) hK ?_ | refine aw_take 3 rfl (by kernel_rfl) (by kernel_rfl) (by kernel_rfl) rfl (fun w hs => run_load Tryz.underlying2 rfl rfl (hs.cellAt 6 rfl rfl)) hK ?_ | refine aw_take 3 rfl (by kernel_rfl) (by kernel_rfl) (by kernel_rfl) rfl (fun w hs => run_load Tryz.underlying2 rfl rfl (hs.cellAt 7 rfl rfl)) hK ?_ | refine aw_take 3 rfl (by kernel_rfl) (by kernel_rfl) (by kernel_rfl) rfl (fun w hs => run_load Tryz.underlying2 rfl rfl (hs.cellAt 8 rfl rfl)) hK ?_ | refine aw_take 3 rfl (by kernel_rfl) (by kernel_rfl) (by kernel_rfl) rfl (fun w hs => run_load Tryz.underlying2 rfl rfl (hs.cellAt 9 rfl rfl)) hK ?_ | refine aw_take 3 rfl (by kernel_rfl) (by kernel_rfl) (by kernel_rfl) rfl (fun w hs => run_load Tryz.underlying2 rfl rfl (hs.cellAt 10 rfl rfl)) hK ?_ | refine aw_take 3 rfl (by kernel_rfl) (by kernel_rfl) (by kernel_rfl) rfl (fun w hs => run_load Tryz.underlying2 rfl rfl (hs.cellAt 11 rfl rfl)) hK ?_ | refine aw_take 3 rfl (by kernel_rfl) (by kernel_rfl) (by kernel_rfl) rfl (fun w hs => run_load Tryz.underlying2 rfl rfl (hs.cellAt 12 rfl rfl)) hK ?_ | refine aw_take 3 rfl (by kernel_rfl) (by kernel_rfl) (by kernel_rfl) rfl (fun w hs => run_load Tryz.underlying2 rfl rfl (hs.cellAt 13 rfl rfl)) hK ?_
  first | refine aw_take 5 rfl (by kernel_rfl) (by kernel_rfl) (by kernel_rfl) rfl (fun w hs => run_fieldAddr (o' := 0) Tryz.underlying36 rfl sz3 rfl rfl rfl) hK ?_ | refine aw_take 5 rfl (by kernel_rfl) (by kernel_rfl) (by kernel_rfl) rfl (fun w hs => run_fieldAddr Tryz.underlying36 rfl sz3 rfl rfl rfl) hK ?_
  first | refine aw_take 6 rfl (by kernel_rfl) (by kernel_rfl) (by kernel_rfl) rfl (fun w hs => run_load Tryz.underlying3 rfl rfl (hs.cellAt 0 rfl rfl)) hK ?_ | refine aw_take 6 rfl (by kernel_rfl) (by kernel_rfl) (by kernel_rfl) rfl (fun w hs => run_load Tryz.underlying3 rfl rfl (hs.cellAt 1 rfl rfl)) hK ?_ | refine aw_take 6 rfl (by kernel_rfl) (by kernel_rfl) (by kernel_rfl) rfl (fun w hs => run_load Tryz.underlying3 rfl rfl (hs.cellAt 2 rfl rfl)) hK ?_ | refine aw_take 6 rfl (by kernel_rfl) (by kernel_rfl) (by kernel_rfl) rfl (fun w hs => run_load Tryz.underlying3 rfl rfl (hs.cellAt 3 rfl rfl)) hK ?_ | refine aw_take 6 rfl (by kernel_rfl) (by kernel_rfl) (by kernel_rfl) rfl (fun w hs => run_load Tryz.underlying3 rfl rfl (hs.cellAt 4 rfl rfl)) hK ?_ | refine aw_take 6 rfl (by kernel_rfl) (by kernel_rfl) (by kernel_rfl) rfl (fun w hs => run_load Tryz.underlying3 rfl rfl (hs.cellAt 5 rfl rfl)) hK ?_ | refine aw_take 6 rfl (by kernel_rfl) (by kernel_rfl) (by kernel_rfl) rfl (fun w hs => run_load Tryz.underlying3 rfl rfl (hs.cellAt 6 rfl rfl)) hK ?_ | refine aw_take 6 rfl (by kernel_rfl) (by kernel_rfl) (by kernel_rfl) rfl (fun w hs => run_load Tryz.underlying3 rfl rfl (hs.cellAt 7 rfl rfl)) hK ?_ | refine aw_take 6 rfl (by kernel_rfl) (by kernel_rfl) (by kernel_rfl) rfl (fun w hs => run_load Tryz.underlying3 rfl rfl (hs.cellAt 8 rfl rfl)) hK ?_ | refine aw_take 6 rfl (by kernel_rfl) (by kernel_rfl) (by kernel_rfl) rfl (fun w hs => run_load Tryz.underlying3 rfl rfl (hs.cellAt 9 rfl rfl)) hK ?_ | refine aw_take 6 rfl (by kernel_rfl) (by kernel_rfl) (by kernel_rfl) rfl (fun w hs => run_load Tryz.underlying3 rfl rfl (hs.cellAt 10 rfl rfl)) hK ?_ | refine aw_take 6 rfl (by kernel_rfl) (by kernel_rfl) (by kernel_rfl) rfl (fun w hs => run_load Tryz.underlying3 rfl rfl (hs.cellAt 11 rfl rfl)) hK ?_ | refine aw_take 6 rfl (by kernel_rfl) (by kernel_rfl) (by kernel_rfl) rfl (fun w hs => run_load Tryz.underlying3 rfl rfl (hs.cellAt 12 rfl rfl)) hK ?_ | refine aw_take 6 rfl (by kernel_rfl) (by kernel_rfl) (by kernel_rfl) rfl (fun w hs => run_load Tryz.underlying3 rfl rfl (hs.cellAt 13 rfl rfl)) hK ?_
  first | refine aw_take 7 rfl (by kernel_rfl) (by kernel_rfl) (by kernel_rfl) rfl (fun w hs => run_fieldAddr (o' := 0) Tryz.underlying36 rfl sz3 rfl rfl rfl) hK ?_ | refine aw_take 7 rfl (by kernel_rfl) (by kernel_rfl) (by kernel_rfl) rfl (fun w hs => run_fieldAddr Tryz.underlying36 rfl sz3 rfl rfl rfl) hK ?_
  first | refine aw_take 8 rfl (by kernel_rfl) (by kernel_rfl) (by kernel_rfl) rfl (fun w hs => run_load Tryz.underlying3 rfl rfl (hs.cellAt 0 rfl rfl)) hK ?_ | refine aw_take 8 rfl (by kernel_rfl) (by kernel_rfl) (by kernel_rfl) rfl (fun w hs => run_load Tryz.underlying3 rfl rfl (hs.cellAt 1 rfl rfl)) hK ?_ | refine aw_take 8 rfl (by kernel_rfl) (by kernel_rfl) (by kernel_rfl) rfl (fun w hs => run_load Tryz.underlying3 rfl rfl (hs.cellAt 2 rfl rfl)) hK ?_ | refine aw_take 8 rfl (by kernel_rfl) (by kernel_rfl) (by kernel_rfl) rfl (fun w hs => run_load Tryz.underlying3 rfl rfl (hs.cellAt 3 rfl rfl)) hK ?_ | refine aw_take 8 rfl (by kernel_rfl) (by kernel_rfl) (by kernel_rfl) rfl (fun w hs => run_load Tryz.underlying3 rfl rfl (hs.cellAt 4 rfl rfl)) hK ?_ | refine aw_take 8 rfl (by kernel_rfl) (by kernel_rfl) (by kernel_rfl) rfl (fun w hs => run_load Tryz.underlying3 rfl rfl (hs.cellAt 5 rfl rfl)) hK ?_ | refine aw_take 8 rfl (by kernel_rfl) (by kernel_rfl) (by kernel_rfl) rfl (fun w hs => run_load Tryz.underlying3 rfl rfl (hs.cellAt 6 rfl rfl)) hK ?_ | refine aw_take 8 rfl (by kernel_rfl) (by kernel_rfl) (by kernel_rfl) rfl (fun w hs => run_load Tryz.underlying3 rfl rfl (hs.cellAt 7 rfl rfl)) hK ?_ | refine aw_take 8 rfl (by kernel_rfl) (by kernel_rfl) (by kernel_rfl) rfl (fun w hs => run_load Tryz.underlying3 rfl rfl (hs.cellAt 8 rfl rfl)) hK ?_ | refine aw_take 8 rfl (by kernel_rfl) (by kernel_rfl) (by kernel_rfl) rfl (fun w hs => run_load Tryz.underlying3 rfl rfl (hs.cellAt 9 rfl rfl)) hK ?_ | refine aw_take 8 rfl (by kernel_rfl) (by kernel_rfl) (by kernel_rfl) rfl (fun w hs => run_load Tryz.underlying3 rfl rfl (hs.cellAt 10 rfl rfl)) hK ?_ | refine aw_take 8 rfl (by kernel_rfl) (by kernel_rfl) (by kernel_rfl) rfl (fun w hs => run_load Tryz.underlying3 rfl rfl (hs.cellAt 11 rfl rfl)) hK ?_ | refine aw_take 8 rfl (by kernel_rfl) (by kernel_rfl) (by kernel_rfl) rfl (fun w hs => run_load Tryz.underlying3 rfl rfl (hs.cellAt 12 rfl rfl)) hK ?_ | refine aw_take 8 rfl (by kernel_rfl) (by kernel_rfl) (by kernel_rfl) rfl (fun w hs => run_load Tryz.underlying3 rfl rfl (hs.cellAt 13 rfl rfl)) hK ?_
  refine aw_take 9 rfl (by kernel_rfl) (by kernel_rfl) (by kernel_rfl) rfl (fun w hs => run_sub64 rfl rfl (c := x.id - y.id) rfl (inI (by omega) (by omega))) hK ?_
  refine aw_ready [4] (by kernel_rfl) (by simp) ?_
  refine ⟨⟨_, rfl, ?_⟩, trivial⟩
  refine lw_call rfl en218 (cmpC_sl hs x.base y.base) ?_
  clear hs
  rintro _ w ⟨rfl, hs⟩
  clear hK
  have hK := hs
  refine lw_nil ⟨hK, ?_⟩
  refine aw_ready [10] (by kernel_rfl) (by simp) ?_
  refine ⟨⟨_, rfl, ?_⟩, trivial⟩
  refine lw_buildSlice hs rfl ((intsL [cmpI x.base y.base, x.id - y.id])) Tryz.underlying22 zs3 rfl (cells_one (intsL_one _)) rfl rfl rfl ?_
  clear hs
  intro b15 w hs
  try simp only [List.set_cons_succ, List.set_cons_zero] at hs
  clear hK
  have hK := hs.tail
  refine lw_nil ⟨hK, ?_⟩
  refine aw_ready [11] (by kernel_rfl) (by simp) ?_
  refine ⟨⟨_, rfl, ?_⟩, trivial⟩
  refine lw_call rfl en217 (or_sl hs (u := cmpI x.base y.base) (t := x.id - y.id) (Rd.cells (n := 2) 0 rfl rfl) rfl) ?_
  clear hs
  rintro _ w ⟨rfl, hs⟩
  clear hK
  have hK := hs.tail
  refine lw_nil ⟨hK, ?_⟩
  first | refine aw_take 12 rfl (by kernel_rfl) (by kernel_rfl) (by kernel_rfl) rfl (fun w hs => run_assign (v := .int .i64 _) rfl) hK ?_
  refine aw_done (by kernel_rfl) ?_
  clear hK
  refine cw_ret ?_
  refine res1 (v := .int .i64 _) rfl rfl ?_
  exact ⟨_, rfl, rfl, hs.tail.tail.tail⟩
end Go.Proofs.YtkogkokmcmallaaGreatDoor
