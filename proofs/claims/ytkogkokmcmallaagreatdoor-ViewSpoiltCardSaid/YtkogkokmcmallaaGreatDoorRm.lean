/- The document's manifests: Make, ValidManifest, and what they call. -/
import Derived.Test.YtkogkokmcmallaaGreatDoorMd
import Derived.Test.YtkogkokmcmallaaGreatDoorNe
import Derived.Test.YtkogkokmcmallaaGreatDoorZr
namespace Go.Proofs.YtkogkokmcmallaaGreatDoor
set_option linter.all false
open Go.RowKit
attribute [local irreducible] errV
variable {g w : World} {L M : List HP} {ad : Nat → Addr} {p : Nat}

def fltV (f : Flt) : Value := .agg #[.int .i64 (f.1 : Nat), .bool f.2.isSome, .int .i64 (f.2.getD 0 : Nat)]
theorem bareR_sl (hs : Mem g w L) (c : Nat) : Calls Tryz.prog 104 #[.int .i64 c] w (Ret fun v w' => v = fltV (c, none) ∧ Mem g w' L) := hs.calls (bare_any c w)
theorem none_sl (hs : Mem g w L) : Calls Tryz.prog 133 #[] w (Ret fun v w' => v = fltV (0, none) ∧ Mem g w' L) := by
  refine calls_cw Tryz.func133 rfl rfl ?_
  skip
  refine cw_seq ?_
  refine cw_region ?_
  refine lw_alloc hs rfl ze79 ?_
  clear hs
  intro b0 w hs
  try simp only [List.set_cons_succ, List.set_cons_zero] at hs
  refine lw_nil ?_
  refine cw_seq ?_
  refine cw_region ?_
  refine lw_val rfl (run_build (cs := [.int .i64 0, .bool false, .int .i64 0]) Tryz.underlying79 ze79 pl79 rfl) ?_
  refine lw_storeRow hs 0 rfl rfl rfl sz79 rfl rfl ?_
  clear hs
  intro w hs
  try simp only [List.set_cons_succ, List.set_cons_zero] at hs
  refine lw_nil ?_
  refine cw_ret ?_
  refine resG [(.cell 0 79, .agg _)] rfl ⟨⟨_, rfl, res_row hs 0 rfl Tryz.underlying79 sz79⟩, trivial⟩ ?_
  exact ⟨_, rfl, rfl, hs.tail⟩
theorem placedR_sl (hs : Mem g w L) {c : Nat} (hc : c ≠ 0) (q : Nat) : Calls Tryz.prog 204 #[.int .i64 c, .int .i64 q] w (Ret fun v w' => v = fltV (c, some q) ∧ Mem g w' L) := by
  refine calls_cw Tryz.func204 rfl rfl ?_
  skip
  refine cw_seq ?_
  refine cw_region ?_
  refine lw_alloc hs rfl ze79 ?_
  clear hs
  intro b4 w hs
  try simp only [List.set_cons_succ, List.set_cons_zero] at hs
  refine lw_nil ?_
  refine cw_seq ?_
  refine cw_seq ?_
  refine cw_region ?_
  refine lw_val rfl (run_move (v := .int .i64 _) rfl) ?_
  refine lw_val rfl (run_eqi rfl rfl) ?_
  refine lw_nil ?_
  refine cw_iff rfl (decide_eq_false (by omega)) ?_
  refine cw_skip ?_
  refine cw_seq ?_
  refine cw_region ?_
  refine lw_val rfl (run_move (v := .int .i64 _) rfl) ?_
  refine lw_val rfl (run_move (v := .int .i64 _) rfl) ?_
  refine lw_val rfl (run_buildF ([.int .i64 c, .bool true, .int .i64 q]) Tryz.underlying79 ze79 pl79 rfl (by simp [Value.cells]) rfl rfl) ?_
  refine lw_storeRow hs 0 rfl rfl rfl sz79 rfl rfl ?_
  clear hs
  intro w hs
  try simp only [List.set_cons_succ, List.set_cons_zero] at hs
  refine lw_nil ?_
  refine cw_ret ?_
  refine resG [(.cell 4 79, .agg _)] rfl ⟨⟨_, rfl, res_row hs 0 rfl Tryz.underlying79 sz79⟩, trivial⟩ ?_
  exact ⟨_, rfl, rfl, hs.tail⟩
theorem rRight_sl (hs : Mem g w L) (n : Int) : Calls Tryz.prog 205 #[.int .i64 n] w (Ret fun v w' => v = .bool (rightN n) ∧ Mem g w' L) := by
  refine calls_cw Tryz.func205 rfl rfl ?_
  skip
  refine cw_seq ?_
  refine cw_region ?_
  refine lw_val rfl (run_assign (v := .bool _) rfl) ?_
  refine lw_nil ?_
  refine cw_seq ?_
  refine cw_region ?_
  refine lw_val rfl (run_move (v := .int .i64 _) rfl) ?_
  refine lw_val rfl (run_geq rfl rfl) ?_
  refine lw_val rfl (run_move (v := .bool _) rfl) ?_
  refine lw_split (t := _) (d := 5) rfl ?_ ?_
  · intro h4
    have g4 := of_decide_eq_true h4
    refine lw_on rfl rfl h4 ?_
    refine lw_val rfl (run_move (v := .int .i64 _) rfl) ?_
    refine lw_on rfl rfl h4 ?_
    refine lw_val rfl (run_leq rfl rfl) ?_
    refine lw_val rfl (run_pickT (v := .bool _) rfl h4 rfl) ?_
    refine lw_val rfl (run_assign (v := .bool _) rfl) ?_
    refine lw_nil ?_
    refine cw_ret ?_
    refine res1 (v := .bool _) rfl rfl ?_
    exact ⟨_, rfl, ret_b (by rw [Bool.eq_iff_iff]; simp [rightN]; omega), hs⟩
  · intro h4
    have g4 := of_decide_eq_false h4
    refine lw_off rfl rfl rfl h4 ?_
    refine lw_off rfl rfl rfl h4 ?_
    refine lw_val rfl (run_pickF (v := .bool _) rfl h4 rfl) ?_
    refine lw_val rfl (run_assign (v := .bool _) rfl) ?_
    refine lw_nil ?_
    refine cw_ret ?_
    refine res1 (v := .bool _) rfl rfl ?_
    exact ⟨_, rfl, ret_b (by rw [Bool.eq_iff_iff]; simp [rightN]; omega), hs⟩
theorem rEpoch_sl (hs : Mem g w L) (n : Int) : Calls Tryz.prog 241 #[.int .i64 n] w (Ret fun v w' => v = .bool (rightE n) ∧ Mem g w' L) := by
  refine calls_cw Tryz.func241 rfl rfl ?_
  skip
  refine cw_seq ?_
  refine cw_region ?_
  refine lw_val rfl (run_assign (v := .bool _) rfl) ?_
  refine lw_nil ?_
  refine cw_seq ?_
  refine cw_region ?_
  refine lw_val rfl (run_move (v := .int .i64 _) rfl) ?_
  refine lw_val rfl (run_geq rfl rfl) ?_
  refine lw_val rfl (run_move (v := .bool _) rfl) ?_
  refine lw_split (t := _) (d := 5) rfl ?_ ?_
  · intro h4
    have g4 := of_decide_eq_true h4
    refine lw_on rfl rfl h4 ?_
    refine lw_val rfl (run_move (v := .int .i64 _) rfl) ?_
    refine lw_on rfl rfl h4 ?_
    refine lw_val rfl (run_leq rfl rfl) ?_
    refine lw_val rfl (run_pickT (v := .bool _) rfl h4 rfl) ?_
    refine lw_val rfl (run_assign (v := .bool _) rfl) ?_
    refine lw_nil ?_
    refine cw_ret ?_
    refine res1 (v := .bool _) rfl rfl ?_
    exact ⟨_, rfl, ret_b (by rw [Bool.eq_iff_iff]; simp [rightE]; omega), hs⟩
  · intro h4
    have g4 := of_decide_eq_false h4
    refine lw_off rfl rfl rfl h4 ?_
    refine lw_off rfl rfl rfl h4 ?_
    refine lw_val rfl (run_pickF (v := .bool _) rfl h4 rfl) ?_
    refine lw_val rfl (run_assign (v := .bool _) rfl) ?_
    refine lw_nil ?_
    refine cw_ret ?_
    refine res1 (v := .bool _) rfl rfl ?_
    exact ⟨_, rfl, ret_b (by rw [Bool.eq_iff_iff]; simp [rightE]; omega), hs⟩
theorem rTime_sl (hs : Mem g w L) (n : Int) : Calls Tryz.prog 206 #[.int .i64 n] w (Ret fun v w' => v = .bool (rightT n) ∧ Mem g w' L) := by
  refine calls_cw Tryz.func206 rfl rfl ?_
  skip
  refine cw_seq ?_
  refine cw_region ?_
  refine lw_val rfl (run_assign (v := .bool _) rfl) ?_
  refine lw_nil ?_
  refine cw_seq ?_
  refine cw_region ?_
  refine lw_val rfl (run_move (v := .int .i64 _) rfl) ?_
  refine lw_val rfl (run_geq rfl rfl) ?_
  refine lw_val rfl (run_move (v := .bool _) rfl) ?_
  refine lw_split (t := _) (d := 5) rfl ?_ ?_
  · intro h4
    have g4 := of_decide_eq_true h4
    refine lw_on rfl rfl h4 ?_
    refine lw_val rfl (run_move (v := .int .i64 _) rfl) ?_
    refine lw_on rfl rfl h4 ?_
    refine lw_val rfl (run_leq rfl rfl) ?_
    refine lw_val rfl (run_pickT (v := .bool _) rfl h4 rfl) ?_
    refine lw_val rfl (run_assign (v := .bool _) rfl) ?_
    refine lw_nil ?_
    refine cw_ret ?_
    refine res1 (v := .bool _) rfl rfl ?_
    exact ⟨_, rfl, ret_b (by rw [Bool.eq_iff_iff]; simp [rightT]; omega), hs⟩
  · intro h4
    have g4 := of_decide_eq_false h4
    refine lw_off rfl rfl rfl h4 ?_
    refine lw_off rfl rfl rfl h4 ?_
    refine lw_val rfl (run_pickF (v := .bool _) rfl h4 rfl) ?_
    refine lw_val rfl (run_assign (v := .bool _) rfl) ?_
    refine lw_nil ?_
    refine cw_ret ?_
    refine res1 (v := .bool _) rfl rfl ?_
    exact ⟨_, rfl, ret_b (by rw [Bool.eq_iff_iff]; simp [rightT]; omega), hs⟩
theorem all_no {l : List Pr} {x : Nat} {y : Pr} (hy : l[x]? = some y) (h : prOk y = false) : l.all prOk = false := Bool.eq_false_iff.2 (fun h2 => absurd ((List.all_eq_true.1 h2 y (List.mem_of_getElem? hy)).symm.trans h) (by decide))
theorem rPairs_sl (hs : Mem g w L) {a : Option Addr} {n c : Nat} {l : List Pr} (hr : RdK g L 2 (.slice a n c) (l.map prL)) (hn : n = l.length) : Calls Tryz.prog 207 #[.slice a n c] w (Ret fun v w' => v = .int .i64 (epF l : Nat) ∧ Mem g w' L) := by
  subst hn
  refine calls_cw Tryz.func207 rfl rfl ?_
  skip
  refine cw_seq ?_
  refine cw_region ?_
  refine lw_val rfl (run_assign (v := .int .i64 _) rfl) ?_
  refine lw_nil ?_
  refine cw_seq ?_
  refine cw_seq ?_
  refine cw_region ?_
  refine lw_val rfl (run_move (v := .slice _ _ _) rfl) ?_
  refine lw_val rfl (run_lenS Tryz.underlying33 rfl) ?_
  refine lw_val rfl (run_gtr rfl rfl) ?_
  refine lw_nil ?_
  refine cw_if rfl ?_ ?_
  · intro h7
    have g7 := of_decide_eq_true h7
    refine cw_seq ?_
    refine cw_region ?_
    refine lw_val rfl (run_assign (v := .int .i64 _) rfl) ?_
    refine lw_nil ?_
    refine cw_ret ?_
    refine res1 (v := .int .i64 _) rfl rfl ?_
    exact ⟨_, rfl, by rw [epF, if_pos (by omega)]; rfl, hs⟩
  · intro h7
    have g7 := of_decide_eq_false h7
    refine cw_skip ?_
    refine cw_seq ?_
    refine cw_seq ?_
    refine cw_region ?_
    refine lw_val rfl (run_assign (v := .int .i64 _) rfl) ?_
    refine lw_nil ?_
    refine cw_block ?_
    refine cw_loop (X := Nat) [2, 3, 8, 9, 10, 11, 12, 13, 14, 15, 16, 17, 18, 19, 20, 21, 22, 23, 24, 25, 26, 27, 28, 29] (fun k => [(3, .int .i64 (k : Nat))]) (fun k w => k ≤ l.length ∧ (l.take k).all prOk = true ∧ Mem g w L) (fun k => l.length - k) (0) ?_ ?_ ?_
    · exact ⟨rfl, trivial⟩
    · exact ⟨Nat.zero_le _, rfl, hs⟩
    clear hs
    rintro x ξ w hI
    obtain ⟨hk, hq, hs⟩ := hI
    refine cw_seq ?_
    refine cw_seq ?_
    refine cw_region ?_
    refine lw_val rfl (run_move (v := .int .i64 _) rfl) ?_
    refine lw_val rfl (run_move (v := .slice _ _ _) rfl) ?_
    refine lw_val rfl (run_lenS Tryz.underlying33 rfl) ?_
    refine lw_val rfl (run_lss rfl rfl) ?_
    refine lw_nil ?_
    refine cw_if rfl ?_ ?_
    · intro h11
      have g11 := of_decide_eq_true h11
      obtain ⟨y, hy⟩ : ∃ y, l[x]? = some y := ⟨_, List.getElem?_eq_getElem (by omega)⟩
      obtain ⟨b1, o1, rfl⟩ := hr.at hs (by rw [len_prL]; omega)
      refine cw_skip ?_
      refine cw_seq ?_
      refine cw_block ?_
      refine cw_seq ?_
      refine cw_region ?_
      refine lw_val rfl (run_move (v := .slice _ _ _) rfl) ?_
      refine lw_val rfl (run_move (v := .int .i64 _) rfl) ?_
      refine lw_val rfl (run_indexAddrK Tryz.underlying33 sz141 rfl rfl rfl (by omega) rfl) ?_
      refine lw_val rfl (run_fieldAddr Tryz.underlying141 rfl sz3 rfl rfl rfl) ?_
      refine lw_val rfl (run_load Tryz.underlying3 rfl rfl (hr.cell hs (prL_at hy) (j := 0) rfl)) ?_
      refine lw_call rfl en241 (rEpoch_sl hs y.1) ?_
      clear hs
      rintro _ w ⟨rfl, hs⟩
      refine lw_val rfl (run_not rfl) ?_
      refine lw_val rfl (run_move (v := .bool _) rfl) ?_
      refine lw_split (t := _) (d := 21) rfl ?_ ?_
      · intro h19
        replace h19 := not_b h19
        refine lw_off rfl rfl rfl (not_t h19) ?_
        refine lw_off rfl rfl rfl (not_t h19) ?_
        refine lw_off rfl rfl rfl (not_t h19) ?_
        refine lw_off rfl rfl rfl (not_t h19) ?_
        refine lw_off rfl rfl rfl (not_t h19) ?_
        refine lw_off rfl rfl rfl (not_t h19) ?_
        refine lw_off rfl rfl rfl (not_t h19) ?_
        refine lw_val rfl (run_pickT (v := .bool _) rfl (not_t h19) rfl) ?_
        refine lw_nil ?_
        refine cw_ift rfl rfl ?_
        refine cw_seq ?_
        refine cw_region ?_
        refine lw_val rfl (run_assign (v := .int .i64 _) rfl) ?_
        refine lw_nil ?_
        refine cw_ret ?_
        refine res1 (v := .int .i64 _) rfl rfl ?_
        have e : prOk y = false := by simp [prOk, h19]
        exact ⟨_, rfl, by rw [epF, if_neg (by omega), if_pos (all_no hy e)]; rfl, hs⟩
      · intro h19
        replace h19 := not_c h19
        refine lw_on rfl rfl (not_f h19) ?_
        refine lw_val rfl (run_move (v := .slice _ _ _) rfl) ?_
        refine lw_on rfl rfl (not_f h19) ?_
        refine lw_val rfl (run_move (v := .int .i64 _) rfl) ?_
        refine lw_on rfl rfl (not_f h19) ?_
        refine lw_val rfl (run_indexAddrK Tryz.underlying33 sz141 rfl rfl rfl (by omega) rfl) ?_
        refine lw_on rfl rfl (not_f h19) ?_
        refine lw_val rfl (run_fieldAddr Tryz.underlying141 rfl sz2 rfl rfl rfl) ?_
        refine lw_on rfl rfl (not_f h19) ?_
        refine lw_val rfl (run_load Tryz.underlying2 rfl rfl (hr.cell hs (prL_at hy) (j := 1) rfl)) ?_
        refine lw_on rfl rfl (not_f h19) ?_
        refine lw_call rfl en205 (rRight_sl hs y.2) ?_
        clear hs
        rintro _ w ⟨rfl, hs⟩
        refine lw_on rfl rfl (not_f h19) ?_
        refine lw_val rfl (run_not rfl) ?_
        refine lw_val rfl (run_pickF (v := .bool _) rfl (not_f h19) rfl) ?_
        refine lw_nil ?_
        refine cw_if rfl ?_ ?_
        · intro h27
          replace h27 := not_b h27
          refine cw_seq ?_
          refine cw_region ?_
          refine lw_val rfl (run_assign (v := .int .i64 _) rfl) ?_
          refine lw_nil ?_
          refine cw_ret ?_
          refine res1 (v := .int .i64 _) rfl rfl ?_
          have e : prOk y = false := by simp [prOk, h27]
          exact ⟨_, rfl, by rw [epF, if_neg (by omega), if_pos (all_no hy e)]; rfl, hs⟩
        · intro h27
          replace h27 := not_c h27
          refine cw_skip ?_
          refine cw_region ?_
          refine lw_val rfl (run_move (v := .int .i64 _) rfl) ?_
          refine lw_val rfl (run_add64 rfl rfl rfl (inI (by omega) (by omega))) ?_
          refine lw_val rfl (run_assign (v := .int .i64 _) rfl) ?_
          refine lw_nil ?_
          exact ⟨x + 1, by omega, ⟨by omega, by rw [List.take_add_one, hy]; simp [hq, prOk, h19, h27], hs⟩, ⟨rfl, trivial⟩, by repeat (first | exact Out.mix _ _ _ | refine Out.updo rfl ?_ | refine Out.upd rfl ?_ | refine Out.mixIn rfl ?_)⟩
    · intro h11
      have g11 := of_decide_eq_false h11
      have hall : l.all prOk = true := by have e : x = l.length := (by omega); rw [e, List.take_length] at hq; exact hq
      refine cw_exit rfl ?_
      refine cw_seq ?_
      refine cw_seq ?_
      refine cw_region ?_
      refine lw_val rfl (run_assign (v := .int .i64 _) rfl) ?_
      refine lw_nil ?_
      refine cw_block ?_
      refine cw_loop (X := Nat) [2, 4, 30, 31, 32, 33, 34, 35, 36, 37, 38, 39, 40, 41, 42, 43, 44, 45, 46, 47, 48, 49, 50, 51, 52, 53, 54, 55, 56, 57, 58, 59, 60, 61] (fun k => [(4, .int .i64 (k : Nat))]) (fun k w => 1 ≤ k ∧ (∀ i, 1 ≤ i → i < k → i < l.length → risAt l i = true) ∧ Mem g w L) (fun k => l.length - k) (1) ?_ ?_ ?_
      · exact ⟨rfl, trivial⟩
      · exact ⟨Nat.le_refl _, fun i h1 h2 => by omega, hs⟩
      clear hs
      rintro x ξ w hI
      obtain ⟨hk1, hq1, hs⟩ := hI
      refine cw_seq ?_
      refine cw_seq ?_
      refine cw_region ?_
      refine lw_val rfl (run_move (v := .int .i64 _) rfl) ?_
      refine lw_val rfl (run_move (v := .slice _ _ _) rfl) ?_
      refine lw_val rfl (run_lenS Tryz.underlying33 rfl) ?_
      refine lw_val rfl (run_lss rfl rfl) ?_
      refine lw_nil ?_
      refine cw_if rfl ?_ ?_
      · intro h33
        have g33 := of_decide_eq_true h33
        obtain ⟨y, hy⟩ : ∃ y, l[x]? = some y := ⟨_, List.getElem?_eq_getElem (by omega)⟩
        obtain ⟨y0, hy0⟩ : ∃ y, l[x - 1]? = some y := ⟨_, List.getElem?_eq_getElem (by omega)⟩
        obtain ⟨b1, o1, rfl⟩ := hr.at hs (by rw [len_prL]; omega)
        have hra := risAt_eq hy0 hy
        refine cw_skip ?_
        refine cw_seq ?_
        refine cw_block ?_
        refine cw_seq ?_
        refine cw_drawS mixes hs ?_
        intro w tr hK
        replace hs := tr _ hs
        clear tr
        refine aw_take 0 rfl (by kernel_rfl) (by kernel_rfl) (by kernel_rfl) rfl (fun w hs => run_move (v := .slice _ _ _) rfl) hK ?_
        refine aw_take 1 rfl (by kernel_rfl) (by kernel_rfl) (by kernel_rfl) rfl (fun w hs => run_move (v := .int .i64 _) rfl) hK ?_
        refine aw_take 2 rfl (by kernel_rfl) (by kernel_rfl) (by kernel_rfl) rfl (fun w hs => run_indexAddrK Tryz.underlying33 sz141 rfl rfl rfl (by omega) rfl) hK ?_
        refine aw_take 3 rfl (by kernel_rfl) (by kernel_rfl) (by kernel_rfl) rfl (fun w hs => run_fieldAddr Tryz.underlying141 rfl sz3 rfl rfl rfl) hK ?_
        refine aw_take 4 rfl (by kernel_rfl) (by kernel_rfl) (by kernel_rfl) rfl (fun w hs => run_load Tryz.underlying3 rfl rfl (hr.cell hs (prL_at hy) (j := 0) rfl)) hK ?_
        refine aw_take 5 rfl (by kernel_rfl) (by kernel_rfl) (by kernel_rfl) rfl (fun w hs => run_move (v := .slice _ _ _) rfl) hK ?_
        refine aw_take 6 rfl (by kernel_rfl) (by kernel_rfl) (by kernel_rfl) rfl (fun w hs => run_move (v := .int .i64 _) rfl) hK ?_
        refine aw_take 7 rfl (by kernel_rfl) (by kernel_rfl) (by kernel_rfl) rfl (fun w hs => run_sub64 rfl rfl (c := ((x - 1 : Nat) : Int)) (by omega) (inI (by omega) (by omega))) hK ?_
        refine aw_take 8 rfl (by kernel_rfl) (by kernel_rfl) (by kernel_rfl) rfl (fun w hs => run_indexAddrK Tryz.underlying33 sz141 rfl rfl rfl (by omega) rfl) hK ?_
        refine aw_take 9 rfl (by kernel_rfl) (by kernel_rfl) (by kernel_rfl) rfl (fun w hs => run_fieldAddr Tryz.underlying141 rfl sz3 rfl rfl rfl) hK ?_
        refine aw_take 10 rfl (by kernel_rfl) (by kernel_rfl) (by kernel_rfl) rfl (fun w hs => run_load Tryz.underlying3 rfl rfl (hr.cell hs (prL_at hy0) (j := 0) rfl)) hK ?_
        refine aw_take 11 rfl (by kernel_rfl) (by kernel_rfl) (by kernel_rfl) rfl (fun w hs => run_leq rfl rfl) hK ?_
        refine aw_take 12 rfl (by kernel_rfl) (by kernel_rfl) (by kernel_rfl) rfl (fun w hs => run_move (v := .bool _) rfl) hK ?_
        refine aw_split (t := _) (d := 48) rfl ?_ ?_
        · intro h47
          have g47 := of_decide_eq_true h47
          refine aw_takeOff 13 rfl (by kernel_rfl) (by kernel_rfl) (by kernel_rfl) rfl rfl rfl h47 hK ?_
          refine aw_takeOff 14 rfl (by kernel_rfl) (by kernel_rfl) (by kernel_rfl) rfl rfl rfl h47 hK ?_
          refine aw_takeOff 15 rfl (by kernel_rfl) (by kernel_rfl) (by kernel_rfl) rfl rfl rfl h47 hK ?_
          refine aw_takeOff 16 rfl (by kernel_rfl) (by kernel_rfl) (by kernel_rfl) rfl rfl rfl h47 hK ?_
          refine aw_takeOff 17 rfl (by kernel_rfl) (by kernel_rfl) (by kernel_rfl) rfl rfl rfl h47 hK ?_
          refine aw_takeOff 18 rfl (by kernel_rfl) (by kernel_rfl) (by kernel_rfl) rfl rfl rfl h47 hK ?_
          refine aw_takeOff 19 rfl (by kernel_rfl) (by kernel_rfl) (by kernel_rfl) rfl rfl rfl h47 hK ?_
          refine aw_takeOff 20 rfl (by kernel_rfl) (by kernel_rfl) (by kernel_rfl) rfl rfl rfl h47 hK ?_
          refine aw_takeOff 21 rfl (by kernel_rfl) (by kernel_rfl) (by kernel_rfl) rfl rfl rfl h47 hK ?_
          refine aw_takeOff 22 rfl (by kernel_rfl) (by kernel_rfl) (by kernel_rfl) rfl rfl rfl h47 hK ?_
          refine aw_takeOff 23 rfl (by kernel_rfl) (by kernel_rfl) (by kernel_rfl) rfl rfl rfl h47 hK ?_
          refine aw_takeOff 24 rfl (by kernel_rfl) (by kernel_rfl) (by kernel_rfl) rfl rfl rfl h47 hK ?_
          refine aw_take 25 rfl (by kernel_rfl) (by kernel_rfl) (by kernel_rfl) rfl (fun w hs => run_pickT (v := .bool _) rfl h47 rfl) hK ?_
          refine aw_done (by kernel_rfl) ?_
          clear hK
          refine cw_ift rfl rfl ?_
          refine cw_seq ?_
          refine cw_region ?_
          refine lw_val rfl (run_assign (v := .int .i64 _) rfl) ?_
          refine lw_nil ?_
          refine cw_ret ?_
          refine res1 (v := .int .i64 _) rfl rfl ?_
          exact ⟨_, rfl, by rw [epF, if_neg (by omega), if_neg (by rw [hall]; decide), if_pos (ris_no hk1 (by omega) (by rw [hra]; simp; omega))]; rfl, hs⟩
        · intro h47
          have g47 := of_decide_eq_false h47
          refine aw_takeOn 13 rfl (by kernel_rfl) (by kernel_rfl) (by kernel_rfl) rfl rfl rfl h47 (fun w hs => run_move (v := .slice _ _ _) rfl) hK ?_
          refine aw_takeOn 14 rfl (by kernel_rfl) (by kernel_rfl) (by kernel_rfl) rfl rfl rfl h47 (fun w hs => run_move (v := .int .i64 _) rfl) hK ?_
          refine aw_takeOn 15 rfl (by kernel_rfl) (by kernel_rfl) (by kernel_rfl) rfl rfl rfl h47 (fun w hs => run_indexAddrK Tryz.underlying33 sz141 rfl rfl rfl (by omega) rfl) hK ?_
          refine aw_takeOn 16 rfl (by kernel_rfl) (by kernel_rfl) (by kernel_rfl) rfl rfl rfl h47 (fun w hs => run_fieldAddr Tryz.underlying141 rfl sz2 rfl rfl rfl) hK ?_
          refine aw_takeOn 17 rfl (by kernel_rfl) (by kernel_rfl) (by kernel_rfl) rfl rfl rfl h47 (fun w hs => run_load Tryz.underlying2 rfl rfl (hr.cell hs (prL_at hy) (j := 1) rfl)) hK ?_
          refine aw_takeOn 18 rfl (by kernel_rfl) (by kernel_rfl) (by kernel_rfl) rfl rfl rfl h47 (fun w hs => run_move (v := .slice _ _ _) rfl) hK ?_
          refine aw_takeOn 19 rfl (by kernel_rfl) (by kernel_rfl) (by kernel_rfl) rfl rfl rfl h47 (fun w hs => run_move (v := .int .i64 _) rfl) hK ?_
          refine aw_takeOn 20 rfl (by kernel_rfl) (by kernel_rfl) (by kernel_rfl) rfl rfl rfl h47 (fun w hs => run_sub64 rfl rfl (c := ((x - 1 : Nat) : Int)) (by omega) (inI (by omega) (by omega))) hK ?_
          refine aw_takeOn 21 rfl (by kernel_rfl) (by kernel_rfl) (by kernel_rfl) rfl rfl rfl h47 (fun w hs => run_indexAddrK Tryz.underlying33 sz141 rfl rfl rfl (by omega) rfl) hK ?_
          refine aw_takeOn 22 rfl (by kernel_rfl) (by kernel_rfl) (by kernel_rfl) rfl rfl rfl h47 (fun w hs => run_fieldAddr Tryz.underlying141 rfl sz2 rfl rfl rfl) hK ?_
          refine aw_takeOn 23 rfl (by kernel_rfl) (by kernel_rfl) (by kernel_rfl) rfl rfl rfl h47 (fun w hs => run_load Tryz.underlying2 rfl rfl (hr.cell hs (prL_at hy0) (j := 1) rfl)) hK ?_
          refine aw_takeOn 24 rfl (by kernel_rfl) (by kernel_rfl) (by kernel_rfl) rfl rfl rfl h47 (fun w hs => run_leq rfl rfl) hK ?_
          refine aw_take 25 rfl (by kernel_rfl) (by kernel_rfl) (by kernel_rfl) rfl (fun w hs => run_pickF (v := .bool _) rfl h47 rfl) hK ?_
          refine aw_done (by kernel_rfl) ?_
          clear hK
          refine cw_if rfl ?_ ?_
          · intro h60
            have g60 := of_decide_eq_true h60
            refine cw_seq ?_
            refine cw_region ?_
            refine lw_val rfl (run_assign (v := .int .i64 _) rfl) ?_
            refine lw_nil ?_
            refine cw_ret ?_
            refine res1 (v := .int .i64 _) rfl rfl ?_
            exact ⟨_, rfl, by rw [epF, if_neg (by omega), if_neg (by rw [hall]; decide), if_pos (ris_no hk1 (by omega) (by rw [hra]; simp; omega))]; rfl, hs⟩
          · intro h60
            have g60 := of_decide_eq_false h60
            refine cw_skip ?_
            refine cw_region ?_
            refine lw_val rfl (run_move (v := .int .i64 _) rfl) ?_
            refine lw_val rfl (run_add64 rfl rfl rfl (inI (by omega) (by omega))) ?_
            refine lw_val rfl (run_assign (v := .int .i64 _) rfl) ?_
            refine lw_nil ?_
            exact ⟨x + 1, by omega, ⟨by omega, (fun i h1 h2 h3 => by rcases Nat.lt_or_ge i x with h | h; exact hq1 i h1 h h3; obtain rfl : i = x := (by omega); rw [hra]; simp; omega), hs⟩, ⟨rfl, trivial⟩, by repeat (first | exact Out.mix _ _ _ | refine Out.updo rfl ?_ | refine Out.upd rfl ?_ | refine Out.mixIn rfl ?_)⟩
      · intro h33
        have g33 := of_decide_eq_false h33
        refine cw_exit rfl ?_
        refine cw_seq ?_
        refine cw_region ?_
        refine lw_val rfl (run_assign (v := .int .i64 _) rfl) ?_
        refine lw_nil ?_
        refine cw_ret ?_
        refine res1 (v := .int .i64 _) rfl rfl ?_
        exact ⟨_, rfl, by rw [epF, if_neg (by omega), if_neg (by rw [hall]; decide), if_neg (by rw [ris_iff.2 (fun i h1 h2 => hq1 i h1 (by omega) h2)]; decide)]; rfl, hs⟩
end Go.Proofs.YtkogkokmcmallaaGreatDoor
