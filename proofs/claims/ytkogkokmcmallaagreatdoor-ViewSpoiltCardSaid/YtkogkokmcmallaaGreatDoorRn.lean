/- The document's ValidManifest. -/
import Derived.Test.YtkogkokmcmallaaGreatDoorRm
namespace Go.Proofs.YtkogkokmcmallaaGreatDoor
set_option linter.all false
open Go.RowKit
attribute [local irreducible] errV
variable {g w : World} {L M : List HP} {ad : Nat → Addr} {p : Nat}

theorem rangeBad_T {x : Mf} (h : rightT x.time = false) : rangeBad x = true := by
  simp only [rightT, Bool.and_eq_false_iff, decide_eq_false_iff_not] at h
  simp only [rangeBad, Bool.or_eq_true, decide_eq_true_eq]
  omega
theorem rangeBad_no {x : Mf} (h1 : ¬ x.id < 0) (h2 : ¬ 2147483647 < x.id) (h3 : rightN x.base = true) (h4 : rightN x.fin = true) (h5 : rightT x.time = true) (h6 : ¬ x.fin ≤ x.base) : rangeBad x = false := by
  simp only [rightT, Bool.and_eq_true, decide_eq_true_eq] at h5
  simp [rangeBad, h1, h2, h3, h4, h5, h6]
set_option maxRecDepth 100000 in
set_option maxHeartbeats 1000000 in
theorem rManifest_sl (hs : Mem g w L) {m : Mf} {e o : SA} (hm : MfR g L m e o) (hob : m.obs.length ≤ 1000000) : Calls Tryz.prog 128 #[.agg (mfL m e o).toArray] w (Ret fun v w' => v = fltV (mfF m) ∧ Mem g w' L) := by
  obtain ⟨ea, ec⟩ := e
  obtain ⟨oa, oc⟩ := o
  refine calls_cw Tryz.func128 rfl rfl ?_
  skip
  refine cw_seq ?_
  refine cw_region ?_
  refine lw_box (v := .agg _) hs rfl rfl ?_
  clear hs
  intro b1 w hs
  try simp only [List.set_cons_succ, List.set_cons_zero] at hs
  refine lw_alloc hs rfl ze79 ?_
  clear hs
  intro b2 w hs
  try simp only [List.set_cons_succ, List.set_cons_zero] at hs
  refine lw_nil ?_
  refine cw_seq ?_
  refine cw_seq ?_
  refine cw_region ?_
  refine lw_val rfl (run_fieldAddr (o' := 0) Tryz.underlying36 rfl sz3 rfl rfl rfl) ?_
  refine lw_val rfl (run_load Tryz.underlying3 rfl rfl (hs.cellAt 1 rfl rfl)) ?_
  refine lw_val rfl (run_lss rfl rfl) ?_
  refine lw_val rfl (run_move (v := .bool _) rfl) ?_
  refine lw_split (t := _) (d := 11) rfl ?_ ?_
  · intro h10
    have g10 := of_decide_eq_true h10
    refine lw_off rfl rfl rfl h10 ?_
    refine lw_off rfl rfl rfl h10 ?_
    refine lw_off rfl rfl rfl h10 ?_
    refine lw_val rfl (run_pickT (v := .bool _) rfl h10 rfl) ?_
    refine lw_val rfl (run_move (v := .bool _) rfl) ?_
    refine lw_off rfl rfl rfl rfl ?_
    refine lw_off rfl rfl rfl rfl ?_
    refine lw_off rfl rfl rfl rfl ?_
    refine lw_off rfl rfl rfl rfl ?_
    refine lw_val rfl (run_pickT (v := .bool _) rfl rfl rfl) ?_
    refine lw_val rfl (run_move (v := .bool _) rfl) ?_
    refine lw_off rfl rfl rfl rfl ?_
    refine lw_off rfl rfl rfl rfl ?_
    refine lw_off rfl rfl rfl rfl ?_
    refine lw_off rfl rfl rfl rfl ?_
    refine lw_val rfl (run_pickT (v := .bool _) rfl rfl rfl) ?_
    refine lw_val rfl (run_move (v := .bool _) rfl) ?_
    refine lw_off rfl rfl rfl rfl ?_
    refine lw_off rfl rfl rfl rfl ?_
    refine lw_off rfl rfl rfl rfl ?_
    refine lw_off rfl rfl rfl rfl ?_
    refine lw_val rfl (run_pickT (v := .bool _) rfl rfl rfl) ?_
    refine lw_val rfl (run_move (v := .bool _) rfl) ?_
    refine lw_off rfl rfl rfl rfl ?_
    refine lw_off rfl rfl rfl rfl ?_
    refine lw_off rfl rfl rfl rfl ?_
    refine lw_off rfl rfl rfl rfl ?_
    refine lw_off rfl rfl rfl rfl ?_
    refine lw_val rfl (run_pickT (v := .bool _) rfl rfl rfl) ?_
    refine lw_nil ?_
    refine cw_ift rfl rfl ?_
    refine cw_seq ?_
    refine cw_region ?_
    refine lw_call rfl en104 (bareR_sl hs 105) ?_
    clear hs
    rintro _ w ⟨rfl, hs⟩
    refine lw_storeRow hs 0 rfl rfl rfl sz79 rfl rfl ?_
    clear hs
    intro w hs
    try simp only [List.set_cons_succ, List.set_cons_zero] at hs
    refine lw_nil ?_
    refine cw_ret ?_
    refine resG [(.cell 2 79, .agg _)] rfl ⟨⟨_, rfl, res_row hs 0 rfl Tryz.underlying79 sz79⟩, trivial⟩ ?_
    have hr : rangeBad m = true := by simp [rangeBad, *]
    exact ⟨_, rfl, by rw [mfF, if_pos hr]; rfl, hs.tail.tail⟩
  · intro h10
    have g10 := of_decide_eq_false h10
    refine lw_on rfl rfl h10 ?_
    refine lw_val rfl (run_fieldAddr (o' := 0) Tryz.underlying36 rfl sz3 rfl rfl rfl) ?_
    refine lw_on rfl rfl h10 ?_
    refine lw_val rfl (run_load Tryz.underlying3 rfl rfl (hs.cellAt 1 rfl rfl)) ?_
    refine lw_on rfl rfl h10 ?_
    refine lw_val rfl (run_gtr rfl rfl) ?_
    refine lw_val rfl (run_pickF (v := .bool _) rfl h10 rfl) ?_
    refine lw_val rfl (run_move (v := .bool _) rfl) ?_
    refine lw_split (t := _) (d := 16) rfl ?_ ?_
    · intro h14
      have g14 := of_decide_eq_true h14
      refine lw_off rfl rfl rfl h14 ?_
      refine lw_off rfl rfl rfl h14 ?_
      refine lw_off rfl rfl rfl h14 ?_
      refine lw_off rfl rfl rfl h14 ?_
      refine lw_val rfl (run_pickT (v := .bool _) rfl h14 rfl) ?_
      refine lw_val rfl (run_move (v := .bool _) rfl) ?_
      refine lw_off rfl rfl rfl rfl ?_
      refine lw_off rfl rfl rfl rfl ?_
      refine lw_off rfl rfl rfl rfl ?_
      refine lw_off rfl rfl rfl rfl ?_
      refine lw_val rfl (run_pickT (v := .bool _) rfl rfl rfl) ?_
      refine lw_val rfl (run_move (v := .bool _) rfl) ?_
      refine lw_off rfl rfl rfl rfl ?_
      refine lw_off rfl rfl rfl rfl ?_
      refine lw_off rfl rfl rfl rfl ?_
      refine lw_off rfl rfl rfl rfl ?_
      refine lw_val rfl (run_pickT (v := .bool _) rfl rfl rfl) ?_
      refine lw_val rfl (run_move (v := .bool _) rfl) ?_
      refine lw_off rfl rfl rfl rfl ?_
      refine lw_off rfl rfl rfl rfl ?_
      refine lw_off rfl rfl rfl rfl ?_
      refine lw_off rfl rfl rfl rfl ?_
      refine lw_off rfl rfl rfl rfl ?_
      refine lw_val rfl (run_pickT (v := .bool _) rfl rfl rfl) ?_
      refine lw_nil ?_
      refine cw_ift rfl rfl ?_
      refine cw_seq ?_
      refine cw_region ?_
      refine lw_call rfl en104 (bareR_sl hs 105) ?_
      clear hs
      rintro _ w ⟨rfl, hs⟩
      refine lw_storeRow hs 0 rfl rfl rfl sz79 rfl rfl ?_
      clear hs
      intro w hs
      try simp only [List.set_cons_succ, List.set_cons_zero] at hs
      refine lw_nil ?_
      refine cw_ret ?_
      refine resG [(.cell 2 79, .agg _)] rfl ⟨⟨_, rfl, res_row hs 0 rfl Tryz.underlying79 sz79⟩, trivial⟩ ?_
      have hr : rangeBad m = true := by simp [rangeBad, *]
      exact ⟨_, rfl, by rw [mfF, if_pos hr]; rfl, hs.tail.tail⟩
    · intro h14
      have g14 := of_decide_eq_false h14
      refine lw_on rfl rfl h14 ?_
      refine lw_val rfl (run_fieldAddr (o' := 1) Tryz.underlying36 rfl sz2 rfl rfl rfl) ?_
      refine lw_on rfl rfl h14 ?_
      refine lw_val rfl (run_load Tryz.underlying2 rfl rfl (hs.cellAt 1 rfl rfl)) ?_
      refine lw_on rfl rfl h14 ?_
      refine lw_call rfl en205 (rRight_sl hs m.base) ?_
      clear hs
      rintro _ w ⟨rfl, hs⟩
      refine lw_on rfl rfl h14 ?_
      refine lw_val rfl (run_not rfl) ?_
      refine lw_val rfl (run_pickF (v := .bool _) rfl h14 rfl) ?_
      refine lw_val rfl (run_move (v := .bool _) rfl) ?_
      refine lw_split (t := _) (d := 22) rfl ?_ ?_
      · intro h19
        replace h19 := not_b h19
        refine lw_off rfl rfl rfl (not_t h19) ?_
        refine lw_off rfl rfl rfl (not_t h19) ?_
        refine lw_off rfl rfl rfl (not_t h19) ?_
        refine lw_off rfl rfl rfl (not_t h19) ?_
        refine lw_val rfl (run_pickT (v := .bool _) rfl (not_t h19) rfl) ?_
        refine lw_val rfl (run_move (v := .bool _) rfl) ?_
        refine lw_off rfl rfl rfl rfl ?_
        refine lw_off rfl rfl rfl rfl ?_
        refine lw_off rfl rfl rfl rfl ?_
        refine lw_off rfl rfl rfl rfl ?_
        refine lw_val rfl (run_pickT (v := .bool _) rfl rfl rfl) ?_
        refine lw_val rfl (run_move (v := .bool _) rfl) ?_
        refine lw_off rfl rfl rfl rfl ?_
        refine lw_off rfl rfl rfl rfl ?_
        refine lw_off rfl rfl rfl rfl ?_
        refine lw_off rfl rfl rfl rfl ?_
        refine lw_off rfl rfl rfl rfl ?_
        refine lw_val rfl (run_pickT (v := .bool _) rfl rfl rfl) ?_
        refine lw_nil ?_
        refine cw_ift rfl rfl ?_
        refine cw_seq ?_
        refine cw_region ?_
        refine lw_call rfl en104 (bareR_sl hs 105) ?_
        clear hs
        rintro _ w ⟨rfl, hs⟩
        refine lw_storeRow hs 0 rfl rfl rfl sz79 rfl rfl ?_
        clear hs
        intro w hs
        try simp only [List.set_cons_succ, List.set_cons_zero] at hs
        refine lw_nil ?_
        refine cw_ret ?_
        refine resG [(.cell 2 79, .agg _)] rfl ⟨⟨_, rfl, res_row hs 0 rfl Tryz.underlying79 sz79⟩, trivial⟩ ?_
        have hr : rangeBad m = true := by simp [rangeBad, *]
        exact ⟨_, rfl, by rw [mfF, if_pos hr]; rfl, hs.tail.tail⟩
      · intro h19
        replace h19 := not_c h19
        refine lw_on rfl rfl (not_f h19) ?_
        refine lw_val rfl (run_fieldAddr (o' := 2) Tryz.underlying36 rfl sz2 rfl rfl rfl) ?_
        refine lw_on rfl rfl (not_f h19) ?_
        refine lw_val rfl (run_load Tryz.underlying2 rfl rfl (hs.cellAt 1 rfl rfl)) ?_
        refine lw_on rfl rfl (not_f h19) ?_
        refine lw_call rfl en205 (rRight_sl hs m.fin) ?_
        clear hs
        rintro _ w ⟨rfl, hs⟩
        refine lw_on rfl rfl (not_f h19) ?_
        refine lw_val rfl (run_not rfl) ?_
        refine lw_val rfl (run_pickF (v := .bool _) rfl (not_f h19) rfl) ?_
        refine lw_val rfl (run_move (v := .bool _) rfl) ?_
        refine lw_split (t := _) (d := 28) rfl ?_ ?_
        · intro h25
          replace h25 := not_b h25
          refine lw_off rfl rfl rfl (not_t h25) ?_
          refine lw_off rfl rfl rfl (not_t h25) ?_
          refine lw_off rfl rfl rfl (not_t h25) ?_
          refine lw_off rfl rfl rfl (not_t h25) ?_
          refine lw_val rfl (run_pickT (v := .bool _) rfl (not_t h25) rfl) ?_
          refine lw_val rfl (run_move (v := .bool _) rfl) ?_
          refine lw_off rfl rfl rfl rfl ?_
          refine lw_off rfl rfl rfl rfl ?_
          refine lw_off rfl rfl rfl rfl ?_
          refine lw_off rfl rfl rfl rfl ?_
          refine lw_off rfl rfl rfl rfl ?_
          refine lw_val rfl (run_pickT (v := .bool _) rfl rfl rfl) ?_
          refine lw_nil ?_
          refine cw_ift rfl rfl ?_
          refine cw_seq ?_
          refine cw_region ?_
          refine lw_call rfl en104 (bareR_sl hs 105) ?_
          clear hs
          rintro _ w ⟨rfl, hs⟩
          refine lw_storeRow hs 0 rfl rfl rfl sz79 rfl rfl ?_
          clear hs
          intro w hs
          try simp only [List.set_cons_succ, List.set_cons_zero] at hs
          refine lw_nil ?_
          refine cw_ret ?_
          refine resG [(.cell 2 79, .agg _)] rfl ⟨⟨_, rfl, res_row hs 0 rfl Tryz.underlying79 sz79⟩, trivial⟩ ?_
          have hr : rangeBad m = true := by simp [rangeBad, *]
          exact ⟨_, rfl, by rw [mfF, if_pos hr]; rfl, hs.tail.tail⟩
        · intro h25
          replace h25 := not_c h25
          refine lw_on rfl rfl (not_f h25) ?_
          refine lw_val rfl (run_fieldAddr (o' := 3) Tryz.underlying36 rfl sz2 rfl rfl rfl) ?_
          refine lw_on rfl rfl (not_f h25) ?_
          refine lw_val rfl (run_load Tryz.underlying2 rfl rfl (hs.cellAt 1 rfl rfl)) ?_
          refine lw_on rfl rfl (not_f h25) ?_
          refine lw_call rfl en206 (rTime_sl hs m.time) ?_
          clear hs
          rintro _ w ⟨rfl, hs⟩
          refine lw_on rfl rfl (not_f h25) ?_
          refine lw_val rfl (run_not rfl) ?_
          refine lw_val rfl (run_pickF (v := .bool _) rfl (not_f h25) rfl) ?_
          refine lw_val rfl (run_move (v := .bool _) rfl) ?_
          refine lw_split (t := _) (d := 34) rfl ?_ ?_
          · intro h31
            replace h31 := not_b h31
            refine lw_off rfl rfl rfl (not_t h31) ?_
            refine lw_off rfl rfl rfl (not_t h31) ?_
            refine lw_off rfl rfl rfl (not_t h31) ?_
            refine lw_off rfl rfl rfl (not_t h31) ?_
            refine lw_off rfl rfl rfl (not_t h31) ?_
            refine lw_val rfl (run_pickT (v := .bool _) rfl (not_t h31) rfl) ?_
            refine lw_nil ?_
            refine cw_ift rfl rfl ?_
            refine cw_seq ?_
            refine cw_region ?_
            refine lw_call rfl en104 (bareR_sl hs 105) ?_
            clear hs
            rintro _ w ⟨rfl, hs⟩
            refine lw_storeRow hs 0 rfl rfl rfl sz79 rfl rfl ?_
            clear hs
            intro w hs
            try simp only [List.set_cons_succ, List.set_cons_zero] at hs
            refine lw_nil ?_
            refine cw_ret ?_
            refine resG [(.cell 2 79, .agg _)] rfl ⟨⟨_, rfl, res_row hs 0 rfl Tryz.underlying79 sz79⟩, trivial⟩ ?_
            have hr : rangeBad m = true := by exact rangeBad_T h31
            exact ⟨_, rfl, by rw [mfF, if_pos hr]; rfl, hs.tail.tail⟩
          · intro h31
            replace h31 := not_c h31
            refine lw_on rfl rfl (not_f h31) ?_
            refine lw_val rfl (run_fieldAddr (o' := 2) Tryz.underlying36 rfl sz2 rfl rfl rfl) ?_
            refine lw_on rfl rfl (not_f h31) ?_
            refine lw_val rfl (run_load Tryz.underlying2 rfl rfl (hs.cellAt 1 rfl rfl)) ?_
            refine lw_on rfl rfl (not_f h31) ?_
            refine lw_val rfl (run_fieldAddr (o' := 1) Tryz.underlying36 rfl sz2 rfl rfl rfl) ?_
            refine lw_on rfl rfl (not_f h31) ?_
            refine lw_val rfl (run_load Tryz.underlying2 rfl rfl (hs.cellAt 1 rfl rfl)) ?_
            refine lw_on rfl rfl (not_f h31) ?_
            refine lw_val rfl (run_leq rfl rfl) ?_
            refine lw_val rfl (run_pickF (v := .bool _) rfl (not_f h31) rfl) ?_
            refine lw_nil ?_
            refine cw_if rfl ?_ ?_
            · intro h39
              have g39 := of_decide_eq_true h39
              refine cw_seq ?_
              refine cw_region ?_
              refine lw_call rfl en104 (bareR_sl hs 105) ?_
              clear hs
              rintro _ w ⟨rfl, hs⟩
              refine lw_storeRow hs 0 rfl rfl rfl sz79 rfl rfl ?_
              clear hs
              intro w hs
              try simp only [List.set_cons_succ, List.set_cons_zero] at hs
              refine lw_nil ?_
              refine cw_ret ?_
              refine resG [(.cell 2 79, .agg _)] rfl ⟨⟨_, rfl, res_row hs 0 rfl Tryz.underlying79 sz79⟩, trivial⟩ ?_
              have hr : rangeBad m = true := by simp [rangeBad, *]
              exact ⟨_, rfl, by rw [mfF, if_pos hr]; rfl, hs.tail.tail⟩
            · intro h39
              have g39 := of_decide_eq_false h39
              have hr := rangeBad_no g10 g14 h19 h25 h31 g39
              refine cw_skip ?_
              refine cw_seq ?_
              refine cw_region ?_
              refine lw_val rfl (run_fieldAddr (o' := 4) Tryz.underlying36 rfl sz33 rfl rfl rfl) ?_
              refine lw_val rfl (run_load Tryz.underlying33 rfl rfl (hs.cellAt 1 rfl rfl)) ?_
              refine lw_call rfl en207 (rPairs_sl hs hm.eps.cons.cons rfl) ?_
              clear hs
              rintro _ w ⟨rfl, hs⟩
              refine lw_val rfl (run_assign (v := .int .i64 _) rfl) ?_
              refine lw_nil ?_
              refine cw_seq ?_
              refine cw_seq ?_
              refine cw_region ?_
              refine lw_val rfl (run_move (v := .int .i64 _) rfl) ?_
              refine lw_val rfl (run_nei rfl rfl) ?_
              refine lw_nil ?_
              refine cw_if rfl ?_ ?_
              · intro h46
                have g46 := ne_t h46
                refine cw_seq ?_
                refine cw_region ?_
                refine lw_val rfl (run_move (v := .int .i64 _) rfl) ?_
                refine lw_call rfl en104 (bareR_sl hs (epF m.eps)) ?_
                clear hs
                rintro _ w ⟨rfl, hs⟩
                refine lw_storeRow hs 0 rfl rfl rfl sz79 rfl rfl ?_
                clear hs
                intro w hs
                try simp only [List.set_cons_succ, List.set_cons_zero] at hs
                refine lw_nil ?_
                refine cw_ret ?_
                refine resG [(.cell 2 79, .agg _)] rfl ⟨⟨_, rfl, res_row hs 0 rfl Tryz.underlying79 sz79⟩, trivial⟩ ?_
                exact ⟨_, rfl, by rw [mfF, if_neg (by rw [hr]; decide), if_pos (by omega)]; rfl, hs.tail.tail⟩
              · intro h46
                have g46 := ne_f h46
                have hep : ¬ epF m.eps ≠ 0 := by omega
                have hlen := epF_len (show epF m.eps = 0 by omega)
                refine cw_skip ?_
                refine cw_seq ?_
                refine cw_region ?_
                refine lw_val rfl (run_fieldAddr (o' := 4) Tryz.underlying36 rfl sz33 rfl rfl rfl) ?_
                refine lw_val rfl (run_load Tryz.underlying33 rfl rfl (hs.cellAt 1 rfl rfl)) ?_
                refine lw_val rfl (run_lenS Tryz.underlying33 rfl) ?_
                refine lw_val rfl (run_assign (v := .int .i64 _) rfl) ?_
                refine lw_nil ?_
                refine cw_seq ?_
                refine cw_seq ?_
                refine cw_drawS mixes hs ?_
                intro w tr hK
                replace hs := tr _ hs
                clear tr
                refine aw_take 0 rfl (by kernel_rfl) (by kernel_rfl) (by kernel_rfl) rfl (fun w hs => run_move (v := .int .i64 _) rfl) hK ?_
                refine aw_take 1 rfl (by kernel_rfl) (by kernel_rfl) (by kernel_rfl) rfl (fun w hs => run_eqi rfl rfl) hK ?_
                refine aw_take 2 rfl (by kernel_rfl) (by kernel_rfl) (by kernel_rfl) rfl (fun w hs => run_move (v := .bool _) rfl) hK ?_
                refine aw_split (t := _) (d := 54) rfl ?_ ?_
                · intro h53
                  have g53 := of_decide_eq_true h53
                  refine aw_takeOff 3 rfl (by kernel_rfl) (by kernel_rfl) (by kernel_rfl) rfl rfl rfl h53 hK ?_
                  refine aw_takeOff 4 rfl (by kernel_rfl) (by kernel_rfl) (by kernel_rfl) rfl rfl rfl h53 hK ?_
                  refine aw_takeOff 5 rfl (by kernel_rfl) (by kernel_rfl) (by kernel_rfl) rfl rfl rfl h53 hK ?_
                  refine aw_takeOff 6 rfl (by kernel_rfl) (by kernel_rfl) (by kernel_rfl) rfl rfl rfl h53 hK ?_
                  refine aw_takeOff 7 rfl (by kernel_rfl) (by kernel_rfl) (by kernel_rfl) rfl rfl rfl h53 hK ?_
                  refine aw_takeOff 8 rfl (by kernel_rfl) (by kernel_rfl) (by kernel_rfl) rfl rfl rfl h53 hK ?_
                  refine aw_takeOff 9 rfl (by kernel_rfl) (by kernel_rfl) (by kernel_rfl) rfl rfl rfl h53 hK ?_
                  refine aw_takeOff 10 rfl (by kernel_rfl) (by kernel_rfl) (by kernel_rfl) rfl rfl rfl h53 hK ?_
                  refine aw_take 11 rfl (by kernel_rfl) (by kernel_rfl) (by kernel_rfl) rfl (fun w hs => run_pickT (v := .bool _) rfl h53 rfl) hK ?_
                  refine aw_take 12 rfl (by kernel_rfl) (by kernel_rfl) (by kernel_rfl) rfl (fun w hs => run_move (v := .bool _) rfl) hK ?_
                  refine aw_takeOff 13 rfl (by kernel_rfl) (by kernel_rfl) (by kernel_rfl) rfl rfl rfl rfl hK ?_
                  refine aw_takeOff 14 rfl (by kernel_rfl) (by kernel_rfl) (by kernel_rfl) rfl rfl rfl rfl hK ?_
                  refine aw_takeOff 15 rfl (by kernel_rfl) (by kernel_rfl) (by kernel_rfl) rfl rfl rfl rfl hK ?_
                  refine aw_takeOff 16 rfl (by kernel_rfl) (by kernel_rfl) (by kernel_rfl) rfl rfl rfl rfl hK ?_
                  refine aw_takeOff 17 rfl (by kernel_rfl) (by kernel_rfl) (by kernel_rfl) rfl rfl rfl rfl hK ?_
                  refine aw_takeOff 18 rfl (by kernel_rfl) (by kernel_rfl) (by kernel_rfl) rfl rfl rfl rfl hK ?_
                  refine aw_takeOff 19 rfl (by kernel_rfl) (by kernel_rfl) (by kernel_rfl) rfl rfl rfl rfl hK ?_
                  refine aw_takeOff 20 rfl (by kernel_rfl) (by kernel_rfl) (by kernel_rfl) rfl rfl rfl rfl hK ?_
                  refine aw_takeOff 21 rfl (by kernel_rfl) (by kernel_rfl) (by kernel_rfl) rfl rfl rfl rfl hK ?_
                  refine aw_takeOff 22 rfl (by kernel_rfl) (by kernel_rfl) (by kernel_rfl) rfl rfl rfl rfl hK ?_
                  refine aw_take 23 rfl (by kernel_rfl) (by kernel_rfl) (by kernel_rfl) rfl (fun w hs => run_pickT (v := .bool _) rfl rfl rfl) hK ?_
                  refine aw_done (by kernel_rfl) ?_
                  clear hK
                  refine cw_ift rfl rfl ?_
                  refine cw_seq ?_
                  refine cw_region ?_
                  refine lw_call rfl en104 (bareR_sl hs 103) ?_
                  clear hs
                  rintro _ w ⟨rfl, hs⟩
                  refine lw_storeRow hs 0 rfl rfl rfl sz79 rfl rfl ?_
                  clear hs
                  intro w hs
                  try simp only [List.set_cons_succ, List.set_cons_zero] at hs
                  refine lw_nil ?_
                  refine cw_ret ?_
                  refine resG [(.cell 2 79, .agg _)] rfl ⟨⟨_, rfl, res_row hs 0 rfl Tryz.underlying79 sz79⟩, trivial⟩ ?_
                  exact ⟨_, rfl, by rw [mfF, if_neg (by rw [hr]; decide), if_neg hep, if_pos (by rw [shapeBad, decide_eq_true (show m.eps.length = 0 by omega)]; rfl)]; rfl, hs.tail.tail⟩
                · intro h53
                  have g53 := of_decide_eq_false h53
                  obtain ⟨y0, hy0⟩ : ∃ y, m.eps[0]? = some y := ⟨_, List.getElem?_eq_getElem (by omega)⟩
                  obtain ⟨y1, hy1⟩ : ∃ y, m.eps[m.eps.length - 1]? = some y := ⟨_, List.getElem?_eq_getElem (by omega)⟩
                  obtain ⟨b9, o9, rfl⟩ := hm.eps.cons.cons.at hs (by rw [len_prL]; omega)
                  refine aw_takeOn 3 rfl (by kernel_rfl) (by kernel_rfl) (by kernel_rfl) rfl rfl rfl h53 (fun w hs => run_fieldAddr (o' := 4) Tryz.underlying36 rfl sz33 rfl rfl rfl) hK ?_
                  refine aw_takeOn 4 rfl (by kernel_rfl) (by kernel_rfl) (by kernel_rfl) rfl rfl rfl h53 (fun w hs => run_load Tryz.underlying33 rfl rfl (hs.cellAt 1 rfl rfl)) hK ?_
                  refine aw_takeOn 5 rfl (by kernel_rfl) (by kernel_rfl) (by kernel_rfl) rfl rfl rfl h53 (fun w hs => run_indexAddrK Tryz.underlying33 sz141 rfl rfl (i := 0) rfl (by omega) rfl) hK ?_
                  refine aw_takeOn 6 rfl (by kernel_rfl) (by kernel_rfl) (by kernel_rfl) rfl rfl rfl h53 (fun w hs => run_fieldAddr Tryz.underlying141 rfl sz2 rfl rfl rfl) hK ?_
                  refine aw_takeOn 7 rfl (by kernel_rfl) (by kernel_rfl) (by kernel_rfl) rfl rfl rfl h53 (fun w hs => run_load Tryz.underlying2 rfl rfl (hm.eps.cons.cons.cell hs (prL_at hy0) (j := 1) rfl)) hK ?_
                  refine aw_takeOn 8 rfl (by kernel_rfl) (by kernel_rfl) (by kernel_rfl) rfl rfl rfl h53 (fun w hs => run_fieldAddr (o' := 1) Tryz.underlying36 rfl sz2 rfl rfl rfl) hK ?_
                  refine aw_takeOn 9 rfl (by kernel_rfl) (by kernel_rfl) (by kernel_rfl) rfl rfl rfl h53 (fun w hs => run_load Tryz.underlying2 rfl rfl (hs.cellAt 1 rfl rfl)) hK ?_
                  refine aw_takeOn 10 rfl (by kernel_rfl) (by kernel_rfl) (by kernel_rfl) rfl rfl rfl h53 (fun w hs => run_nei rfl rfl) hK ?_
                  refine aw_take 11 rfl (by kernel_rfl) (by kernel_rfl) (by kernel_rfl) rfl (fun w hs => run_pickF (v := .bool _) rfl h53 rfl) hK ?_
                  refine aw_take 12 rfl (by kernel_rfl) (by kernel_rfl) (by kernel_rfl) rfl (fun w hs => run_move (v := .bool _) rfl) hK ?_
                  refine aw_split (t := _) (d := 64) rfl ?_ ?_
                  · intro h62
                    have g62 := ne_t h62
                    refine aw_takeOff 13 rfl (by kernel_rfl) (by kernel_rfl) (by kernel_rfl) rfl rfl rfl h62 hK ?_
                    refine aw_takeOff 14 rfl (by kernel_rfl) (by kernel_rfl) (by kernel_rfl) rfl rfl rfl h62 hK ?_
                    refine aw_takeOff 15 rfl (by kernel_rfl) (by kernel_rfl) (by kernel_rfl) rfl rfl rfl h62 hK ?_
                    refine aw_takeOff 16 rfl (by kernel_rfl) (by kernel_rfl) (by kernel_rfl) rfl rfl rfl h62 hK ?_
                    refine aw_takeOff 17 rfl (by kernel_rfl) (by kernel_rfl) (by kernel_rfl) rfl rfl rfl h62 hK ?_
                    refine aw_takeOff 18 rfl (by kernel_rfl) (by kernel_rfl) (by kernel_rfl) rfl rfl rfl h62 hK ?_
                    refine aw_takeOff 19 rfl (by kernel_rfl) (by kernel_rfl) (by kernel_rfl) rfl rfl rfl h62 hK ?_
                    refine aw_takeOff 20 rfl (by kernel_rfl) (by kernel_rfl) (by kernel_rfl) rfl rfl rfl h62 hK ?_
                    refine aw_takeOff 21 rfl (by kernel_rfl) (by kernel_rfl) (by kernel_rfl) rfl rfl rfl h62 hK ?_
                    refine aw_takeOff 22 rfl (by kernel_rfl) (by kernel_rfl) (by kernel_rfl) rfl rfl rfl h62 hK ?_
                    refine aw_take 23 rfl (by kernel_rfl) (by kernel_rfl) (by kernel_rfl) rfl (fun w hs => run_pickT (v := .bool _) rfl h62 rfl) hK ?_
                    refine aw_done (by kernel_rfl) ?_
                    clear hK
                    refine cw_ift rfl rfl ?_
                    refine cw_seq ?_
                    refine cw_region ?_
                    refine lw_call rfl en104 (bareR_sl hs 103) ?_
                    clear hs
                    rintro _ w ⟨rfl, hs⟩
                    refine lw_storeRow hs 0 rfl rfl rfl sz79 rfl rfl ?_
                    clear hs
                    intro w hs
                    try simp only [List.set_cons_succ, List.set_cons_zero] at hs
                    refine lw_nil ?_
                    refine cw_ret ?_
                    refine resG [(.cell 2 79, .agg _)] rfl ⟨⟨_, rfl, res_row hs 0 rfl Tryz.underlying79 sz79⟩, trivial⟩ ?_
                    exact ⟨_, rfl, by rw [mfF, if_neg (by rw [hr]; decide), if_neg hep, if_pos (by simp only [shapeBad, pr_get hy0, pr_get hy1]; simp; omega)]; rfl, hs.tail.tail⟩
                  · intro h62
                    have g62 := ne_f h62
                    refine aw_takeOn 13 rfl (by kernel_rfl) (by kernel_rfl) (by kernel_rfl) rfl rfl rfl h62 (fun w hs => run_fieldAddr (o' := 4) Tryz.underlying36 rfl sz33 rfl rfl rfl) hK ?_
                    refine aw_takeOn 14 rfl (by kernel_rfl) (by kernel_rfl) (by kernel_rfl) rfl rfl rfl h62 (fun w hs => run_load Tryz.underlying33 rfl rfl (hs.cellAt 1 rfl rfl)) hK ?_
                    refine aw_takeOn 15 rfl (by kernel_rfl) (by kernel_rfl) (by kernel_rfl) rfl rfl rfl h62 (fun w hs => run_move (v := .int .i64 _) rfl) hK ?_
                    refine aw_takeOn 16 rfl (by kernel_rfl) (by kernel_rfl) (by kernel_rfl) rfl rfl rfl h62 (fun w hs => run_sub64 rfl rfl (c := ((m.eps.length - 1 : Nat) : Int)) (by omega) (inI (by omega) (by omega))) hK ?_
                    refine aw_takeOn 17 rfl (by kernel_rfl) (by kernel_rfl) (by kernel_rfl) rfl rfl rfl h62 (fun w hs => run_indexAddrK Tryz.underlying33 sz141 rfl rfl rfl (by omega) rfl) hK ?_
                    refine aw_takeOn 18 rfl (by kernel_rfl) (by kernel_rfl) (by kernel_rfl) rfl rfl rfl h62 (fun w hs => run_fieldAddr Tryz.underlying141 rfl sz2 rfl rfl rfl) hK ?_
                    refine aw_takeOn 19 rfl (by kernel_rfl) (by kernel_rfl) (by kernel_rfl) rfl rfl rfl h62 (fun w hs => run_load Tryz.underlying2 rfl rfl (hm.eps.cons.cons.cell hs (prL_at hy1) (j := 1) rfl)) hK ?_
                    refine aw_takeOn 20 rfl (by kernel_rfl) (by kernel_rfl) (by kernel_rfl) rfl rfl rfl h62 (fun w hs => run_fieldAddr (o' := 2) Tryz.underlying36 rfl sz2 rfl rfl rfl) hK ?_
                    refine aw_takeOn 21 rfl (by kernel_rfl) (by kernel_rfl) (by kernel_rfl) rfl rfl rfl h62 (fun w hs => run_load Tryz.underlying2 rfl rfl (hs.cellAt 1 rfl rfl)) hK ?_
                    refine aw_takeOn 22 rfl (by kernel_rfl) (by kernel_rfl) (by kernel_rfl) rfl rfl rfl h62 (fun w hs => run_geq rfl rfl) hK ?_
                    refine aw_take 23 rfl (by kernel_rfl) (by kernel_rfl) (by kernel_rfl) rfl (fun w hs => run_pickF (v := .bool _) rfl h62 rfl) hK ?_
                    refine aw_done (by kernel_rfl) ?_
                    clear hK
                    refine cw_if rfl ?_ ?_
                    · intro h74
                      have g74 := of_decide_eq_true h74
                      refine cw_seq ?_
                      refine cw_region ?_
                      refine lw_call rfl en104 (bareR_sl hs 103) ?_
                      clear hs
                      rintro _ w ⟨rfl, hs⟩
                      refine lw_storeRow hs 0 rfl rfl rfl sz79 rfl rfl ?_
                      clear hs
                      intro w hs
                      try simp only [List.set_cons_succ, List.set_cons_zero] at hs
                      refine lw_nil ?_
                      refine cw_ret ?_
                      refine resG [(.cell 2 79, .agg _)] rfl ⟨⟨_, rfl, res_row hs 0 rfl Tryz.underlying79 sz79⟩, trivial⟩ ?_
                      exact ⟨_, rfl, by rw [mfF, if_neg (by rw [hr]; decide), if_neg hep, if_pos (by simp only [shapeBad, pr_get hy0, pr_get hy1]; simp; omega)]; rfl, hs.tail.tail⟩
                    · intro h74
                      have g74 := of_decide_eq_false h74
                      refine cw_skip ?_
                      refine cw_seq ?_
                      refine cw_seq ?_
                      have hsb : shapeBad m = false := by rw [shapeBad, pr_get hy0, pr_get hy1, decide_eq_false (show ¬ m.eps.length = 0 by omega), decide_eq_false (show ¬ y0.2 ≠ m.base by omega), decide_eq_false (show ¬ m.fin ≤ y1.2 by omega)]; rfl
                      have hF : mfF m = obF m.obs := by rw [mfF, if_neg (by rw [hr]; decide), if_neg hep, if_neg (by rw [hsb]; decide)]
                      rw [hF]
                      refine cw_region ?_
                      refine lw_val rfl (run_fieldAddr (o' := 5) Tryz.underlying36 rfl sz34 rfl rfl rfl) ?_
                      refine lw_val rfl (run_load Tryz.underlying34 rfl rfl (hs.cellAt 1 rfl rfl)) ?_
                      refine lw_val rfl (run_lenS Tryz.underlying34 rfl) ?_
                      refine lw_val rfl (run_eqi rfl rfl) ?_
                      refine lw_val rfl (run_move (v := .bool _) rfl) ?_
                      refine lw_split (t := _) (d := 81) rfl ?_ ?_
                      · intro h80
                        have g80 := of_decide_eq_true h80
                        refine lw_off rfl rfl rfl h80 ?_
                        refine lw_off rfl rfl rfl h80 ?_
                        refine lw_off rfl rfl rfl h80 ?_
                        refine lw_off rfl rfl rfl h80 ?_
                        refine lw_val rfl (run_pickT (v := .bool _) rfl h80 rfl) ?_
                        refine lw_nil ?_
                        refine cw_ift rfl rfl ?_
                        refine cw_seq ?_
                        refine cw_region ?_
                        refine lw_call rfl en104 (bareR_sl hs 104) ?_
                        clear hs
                        rintro _ w ⟨rfl, hs⟩
                        refine lw_storeRow hs 0 rfl rfl rfl sz79 rfl rfl ?_
                        clear hs
                        intro w hs
                        try simp only [List.set_cons_succ, List.set_cons_zero] at hs
                        refine lw_nil ?_
                        refine cw_ret ?_
                        refine resG [(.cell 2 79, .agg _)] rfl ⟨⟨_, rfl, res_row hs 0 rfl Tryz.underlying79 sz79⟩, trivial⟩ ?_
                        exact ⟨_, rfl, by rw [obF, if_pos (by omega)]; rfl, hs.tail.tail⟩
                      · intro h80
                        have g80 := of_decide_eq_false h80
                        refine lw_on rfl rfl h80 ?_
                        refine lw_val rfl (run_fieldAddr (o' := 5) Tryz.underlying36 rfl sz34 rfl rfl rfl) ?_
                        refine lw_on rfl rfl h80 ?_
                        refine lw_val rfl (run_load Tryz.underlying34 rfl rfl (hs.cellAt 1 rfl rfl)) ?_
                        refine lw_on rfl rfl h80 ?_
                        refine lw_val rfl (run_lenS Tryz.underlying34 rfl) ?_
                        refine lw_on rfl rfl h80 ?_
                        refine lw_val rfl (run_gtr rfl rfl) ?_
                        refine lw_val rfl (run_pickF (v := .bool _) rfl h80 rfl) ?_
                        refine lw_nil ?_
                        refine cw_if rfl ?_ ?_
                        · intro h85
                          have g85 := of_decide_eq_true h85
                          refine cw_seq ?_
                          refine cw_region ?_
                          refine lw_call rfl en104 (bareR_sl hs 104) ?_
                          clear hs
                          rintro _ w ⟨rfl, hs⟩
                          refine lw_storeRow hs 0 rfl rfl rfl sz79 rfl rfl ?_
                          clear hs
                          intro w hs
                          try simp only [List.set_cons_succ, List.set_cons_zero] at hs
                          refine lw_nil ?_
                          refine cw_ret ?_
                          refine resG [(.cell 2 79, .agg _)] rfl ⟨⟨_, rfl, res_row hs 0 rfl Tryz.underlying79 sz79⟩, trivial⟩ ?_
                          exact ⟨_, rfl, by rw [obF, if_pos (by omega)]; rfl, hs.tail.tail⟩
                        · intro h85
                          have g85 := of_decide_eq_false h85
                          refine cw_skip ?_
                          refine cw_seq ?_
                          refine cw_seq ?_
                          refine cw_region ?_
                          refine lw_val rfl (run_assign (v := .int .i64 _) rfl) ?_
                          refine lw_nil ?_
                          refine cw_block ?_
                          refine cw_loop (X := Nat) [5, 88, 89, 90, 91, 92, 93, 94, 95, 96, 97, 98, 99, 100, 101, 102, 103, 104, 105, 106, 107, 108, 109, 110, 111, 112, 113, 114, 115, 116, 117, 118, 119, 120, 121, 122] (fun k => [(5, .int .i64 (k : Nat))]) (fun k w => k ≤ m.obs.length ∧ (∀ j, j < k → ∀ u, m.obs[j]? = some u → obBad u = 0) ∧ Mem g w (cells b2 [.int .i64 0, .bool false, .int .i64 0] 79 :: cells b1 (mfL m (some ⟨b9, o9, none⟩, ec) (oa, oc)) 36 :: L)) (fun k => m.obs.length - k) (0) ?_ ?_ ?_
                          · exact ⟨rfl, trivial⟩
                          · exact ⟨Nat.zero_le _, fun j h => by omega, hs⟩
                          clear hs
                          rintro x ξ w hI
                          obtain ⟨hk, hq, hs⟩ := hI
                          refine cw_seq ?_
                          refine cw_seq ?_
                          refine cw_region ?_
                          refine lw_val rfl (run_move (v := .int .i64 _) rfl) ?_
                          refine lw_val rfl (run_fieldAddr (o' := 5) Tryz.underlying36 rfl sz34 rfl rfl rfl) ?_
                          refine lw_val rfl (run_load Tryz.underlying34 rfl rfl (hs.cellAt 1 rfl rfl)) ?_
                          refine lw_val rfl (run_lenS Tryz.underlying34 rfl) ?_
                          refine lw_val rfl (run_lss rfl rfl) ?_
                          refine lw_nil ?_
                          refine cw_if rfl ?_ ?_
                          · intro h92
                            have g92 := of_decide_eq_true h92
                            obtain ⟨y, hy⟩ : ∃ y, m.obs[x]? = some y := ⟨_, List.getElem?_eq_getElem (by omega)⟩
                            obtain ⟨b8, o8, rfl⟩ := hm.obs.cons.cons.at hs (by rw [len_obL]; omega)
                            refine cw_skip ?_
                            refine cw_seq ?_
                            refine cw_block ?_
                            refine cw_seq ?_
                            refine cw_seq ?_
                            refine cw_region ?_
                            refine lw_val rfl (run_fieldAddr (o' := 5) Tryz.underlying36 rfl sz34 rfl rfl rfl) ?_
                            refine lw_val rfl (run_load Tryz.underlying34 rfl rfl (hs.cellAt 1 rfl rfl)) ?_
                            refine lw_val rfl (run_move (v := .int .i64 _) rfl) ?_
                            refine lw_val rfl (run_indexAddrK Tryz.underlying34 sz41 rfl rfl rfl (by omega) rfl) ?_
                            refine lw_val rfl (run_fieldAddr Tryz.underlying41 rfl sz9 rfl rfl rfl) ?_
                            refine lw_val rfl (run_load Tryz.underlying9 rfl rfl (hm.obs.cons.cons.cell hs (obL_at hy) (j := 0) rfl)) ?_
                            refine lw_call rfl en148 (hs.callsE (refValid_any y.1 w)) ?_
                            clear hs
                            rintro _ w ⟨rfl, hs⟩
                            refine lw_val rfl (run_not rfl) ?_
                            refine lw_nil ?_
                            refine cw_if rfl ?_ ?_
                            · intro h101
                              replace h101 := not_b h101
                              refine cw_seq ?_
                              refine cw_region ?_
                              refine lw_val rfl (run_move (v := .int .i64 _) rfl) ?_
                              refine lw_call rfl en204 (placedR_sl hs (c := 106) (by decide) x) ?_
                              clear hs
                              rintro _ w ⟨rfl, hs⟩
                              refine lw_storeRow hs 0 rfl rfl rfl sz79 rfl rfl ?_
                              clear hs
                              intro w hs
                              try simp only [List.set_cons_succ, List.set_cons_zero] at hs
                              refine lw_nil ?_
                              refine cw_ret ?_
                              refine resG [(.cell 2 79, .agg _)] rfl ⟨⟨_, rfl, res_row hs 0 rfl Tryz.underlying79 sz79⟩, trivial⟩ ?_
                              have e : obBad y = 106 := by simp [obBad, h101]
                              rw [obF_bad (by omega) hy (by rw [e]; decide) hq, e]
                              exact ⟨_, rfl, rfl, hs.tail.tail⟩
                            · intro h101
                              replace h101 := not_c h101
                              refine cw_skip ?_
                              refine cw_seq ?_
                              refine cw_region ?_
                              refine lw_val rfl (run_fieldAddr (o' := 5) Tryz.underlying36 rfl sz34 rfl rfl rfl) ?_
                              refine lw_val rfl (run_load Tryz.underlying34 rfl rfl (hs.cellAt 1 rfl rfl)) ?_
                              refine lw_val rfl (run_move (v := .int .i64 _) rfl) ?_
                              refine lw_val rfl (run_indexAddrK Tryz.underlying34 sz41 rfl rfl rfl (by omega) rfl) ?_
                              refine lw_val rfl (run_fieldAddr Tryz.underlying41 rfl sz3 rfl rfl rfl) ?_
                              refine lw_val rfl (run_load Tryz.underlying3 rfl rfl (hm.obs.cons.cons.cell hs (obL_at hy) (j := 1) rfl)) ?_
                              refine lw_val rfl (run_lss rfl rfl) ?_
                              refine lw_val rfl (run_move (v := .bool _) rfl) ?_
                              refine lw_split (t := _) (d := 112) rfl ?_ ?_
                              · intro h111
                                have g111 := of_decide_eq_true h111
                                refine lw_off rfl rfl rfl h111 ?_
                                refine lw_off rfl rfl rfl h111 ?_
                                refine lw_off rfl rfl rfl h111 ?_
                                refine lw_off rfl rfl rfl h111 ?_
                                refine lw_off rfl rfl rfl h111 ?_
                                refine lw_off rfl rfl rfl h111 ?_
                                refine lw_off rfl rfl rfl h111 ?_
                                refine lw_val rfl (run_pickT (v := .bool _) rfl h111 rfl) ?_
                                refine lw_nil ?_
                                refine cw_ift rfl rfl ?_
                                refine cw_seq ?_
                                refine cw_region ?_
                                refine lw_val rfl (run_move (v := .int .i64 _) rfl) ?_
                                refine lw_call rfl en204 (placedR_sl hs (c := 105) (by decide) x) ?_
                                clear hs
                                rintro _ w ⟨rfl, hs⟩
                                refine lw_storeRow hs 0 rfl rfl rfl sz79 rfl rfl ?_
                                clear hs
                                intro w hs
                                try simp only [List.set_cons_succ, List.set_cons_zero] at hs
                                refine lw_nil ?_
                                refine cw_ret ?_
                                refine resG [(.cell 2 79, .agg _)] rfl ⟨⟨_, rfl, res_row hs 0 rfl Tryz.underlying79 sz79⟩, trivial⟩ ?_
                                have e : obBad y = 105 := by simp only [obBad, h101, Bool.true_eq_false, if_false]; rw [if_pos (by omega)]
                                rw [obF_bad (by omega) hy (by rw [e]; decide) hq, e]
                                exact ⟨_, rfl, rfl, hs.tail.tail⟩
                              · intro h111
                                have g111 := of_decide_eq_false h111
                                refine lw_on rfl rfl h111 ?_
                                refine lw_val rfl (run_fieldAddr (o' := 5) Tryz.underlying36 rfl sz34 rfl rfl rfl) ?_
                                refine lw_on rfl rfl h111 ?_
                                refine lw_val rfl (run_load Tryz.underlying34 rfl rfl (hs.cellAt 1 rfl rfl)) ?_
                                refine lw_on rfl rfl h111 ?_
                                refine lw_val rfl (run_move (v := .int .i64 _) rfl) ?_
                                refine lw_on rfl rfl h111 ?_
                                refine lw_val rfl (run_indexAddrK Tryz.underlying34 sz41 rfl rfl rfl (by omega) rfl) ?_
                                refine lw_on rfl rfl h111 ?_
                                refine lw_val rfl (run_fieldAddr Tryz.underlying41 rfl sz3 rfl rfl rfl) ?_
                                refine lw_on rfl rfl h111 ?_
                                refine lw_val rfl (run_load Tryz.underlying3 rfl rfl (hm.obs.cons.cons.cell hs (obL_at hy) (j := 1) rfl)) ?_
                                refine lw_on rfl rfl h111 ?_
                                refine lw_val rfl (run_gtr rfl rfl) ?_
                                refine lw_val rfl (run_pickF (v := .bool _) rfl h111 rfl) ?_
                                refine lw_nil ?_
                                refine cw_if rfl ?_ ?_
                                · intro h119
                                  have g119 := of_decide_eq_true h119
                                  refine cw_seq ?_
                                  refine cw_region ?_
                                  refine lw_val rfl (run_move (v := .int .i64 _) rfl) ?_
                                  refine lw_call rfl en204 (placedR_sl hs (c := 105) (by decide) x) ?_
                                  clear hs
                                  rintro _ w ⟨rfl, hs⟩
                                  refine lw_storeRow hs 0 rfl rfl rfl sz79 rfl rfl ?_
                                  clear hs
                                  intro w hs
                                  try simp only [List.set_cons_succ, List.set_cons_zero] at hs
                                  refine lw_nil ?_
                                  refine cw_ret ?_
                                  refine resG [(.cell 2 79, .agg _)] rfl ⟨⟨_, rfl, res_row hs 0 rfl Tryz.underlying79 sz79⟩, trivial⟩ ?_
                                  have e : obBad y = 105 := by simp only [obBad, h101, Bool.true_eq_false, if_false]; rw [if_pos (by omega)]
                                  rw [obF_bad (by omega) hy (by rw [e]; decide) hq, e]
                                  exact ⟨_, rfl, rfl, hs.tail.tail⟩
                                · intro h119
                                  have g119 := of_decide_eq_false h119
                                  refine cw_skip ?_
                                  refine cw_region ?_
                                  refine lw_val rfl (run_move (v := .int .i64 _) rfl) ?_
                                  refine lw_val rfl (run_add64 rfl rfl rfl (inI (by omega) (by omega))) ?_
                                  refine lw_val rfl (run_assign (v := .int .i64 _) rfl) ?_
                                  refine lw_nil ?_
                                  exact ⟨x + 1, by omega, ⟨by omega, (fun j hj u hu => by rcases Nat.lt_or_ge j x with h | h; exact hq j h u hu; obtain rfl : j = x := (by omega); rw [hy] at hu; cases hu; simp only [obBad, h101, Bool.true_eq_false, if_false]; rw [if_neg (by omega)]), hs⟩, ⟨rfl, trivial⟩, by repeat (first | exact Out.mix _ _ _ | refine Out.updo rfl ?_ | refine Out.upd rfl ?_ | refine Out.mixIn rfl ?_)⟩
                          · intro h92
                            have g92 := of_decide_eq_false h92
                            have hall : ∀ (j : Nat) (u : Ob), m.obs[j]? = some u → obBad u = 0 := fun j u hu => hq j (by have := (List.getElem?_eq_some_iff.1 hu).1; omega) u hu
                            refine cw_exit rfl ?_
                            refine cw_seq ?_
                            refine cw_seq ?_
                            refine cw_region ?_
                            refine lw_val rfl (run_assign (v := .int .i64 _) rfl) ?_
                            refine lw_nil ?_
                            refine cw_block ?_
                            refine cw_loop (X := Nat) [6, 7, 123, 124, 125, 126, 127, 128, 129, 130, 131, 132, 133, 134, 135, 136, 137, 138, 139, 140, 141, 142, 143, 144, 145, 146, 147, 148] (fun k => [(6, .int .i64 (k : Nat))]) (fun k w => k ≤ m.obs.length ∧ ((m.obs.take k).map Prod.fst).Nodup ∧ Mem g w (cells b2 [.int .i64 0, .bool false, .int .i64 0] 79 :: cells b1 (mfL m (some ⟨b9, o9, none⟩, ec) (oa, oc)) 36 :: L)) (fun k => m.obs.length - k) (0) ?_ ?_ ?_
                            · exact ⟨rfl, trivial⟩
                            · exact ⟨Nat.zero_le _, by simp, hs⟩
                            clear hs
                            rintro x ξ w hI
                            obtain ⟨hk1, hq1, hs⟩ := hI
                            refine cw_seq ?_
                            refine cw_seq ?_
                            refine cw_region ?_
                            refine lw_val rfl (run_move (v := .int .i64 _) rfl) ?_
                            refine lw_val rfl (run_fieldAddr (o' := 5) Tryz.underlying36 rfl sz34 rfl rfl rfl) ?_
                            refine lw_val rfl (run_load Tryz.underlying34 rfl rfl (hs.cellAt 1 rfl rfl)) ?_
                            refine lw_val rfl (run_lenS Tryz.underlying34 rfl) ?_
                            refine lw_val rfl (run_lss rfl rfl) ?_
                            refine lw_nil ?_
                            refine cw_if rfl ?_ ?_
                            · intro h127
                              have g127 := of_decide_eq_true h127
                              obtain ⟨y, hy⟩ : ∃ y, m.obs[x]? = some y := ⟨_, List.getElem?_eq_getElem (by omega)⟩
                              obtain ⟨b8, o8, rfl⟩ := hm.obs.cons.cons.at hs (by rw [len_obL]; omega)
                              obtain ⟨X, hX⟩ : ∃ X, X = x := ⟨_, rfl⟩
                              refine cw_skip ?_
                              refine cw_seq ?_
                              refine cw_block ?_
                              refine cw_seq ?_
                              refine cw_region ?_
                              refine lw_val rfl (run_assign (v := .int .i64 _) rfl) ?_
                              refine lw_nil ?_
                              refine cw_block ?_
                              refine cw_loop (X := Nat) [7, 130, 131, 132, 133, 134, 135, 136, 137, 138, 139, 140, 141, 142, 143, 144, 145, 146, 147, 148] (fun k => [(7, .int .i64 (k : Nat))]) (fun k w => k ≤ X ∧ ((m.obs.take k).any fun u => decide (u.1 = y.1)) = false ∧ Mem g w (cells b2 [.int .i64 0, .bool false, .int .i64 0] 79 :: cells b1 (mfL m (some ⟨b9, o9, none⟩, ec) (some ⟨b8, o8, none⟩, oc)) 36 :: L)) (fun k => X - k) (0) ?_ ?_ ?_
                              · exact ⟨rfl, trivial⟩
                              · exact ⟨Nat.zero_le _, by simp, hs⟩
                              clear hs
                              rintro x ξ w hI
                              obtain ⟨hk2, hq2, hs⟩ := hI
                              refine cw_seq ?_
                              refine cw_seq ?_
                              refine cw_region ?_
                              refine lw_val rfl (run_move (v := .int .i64 _) rfl) ?_
                              refine lw_val rfl (run_move (v := .int .i64 _) rfl) ?_
                              refine lw_val rfl (run_lss rfl rfl) ?_
                              refine lw_nil ?_
                              refine cw_if rfl ?_ ?_
                              · intro h132
                                have g132 := of_decide_eq_true h132
                                obtain ⟨z, hz⟩ : ∃ z, m.obs[x]? = some z := ⟨_, List.getElem?_eq_getElem (by omega)⟩
                                refine cw_skip ?_
                                refine cw_seq ?_
                                refine cw_block ?_
                                refine cw_seq ?_
                                refine cw_drawS mixes hs ?_
                                intro w tr hK
                                replace hs := tr _ hs
                                clear tr
                                refine aw_take 0 rfl (by kernel_rfl) (by kernel_rfl) (by kernel_rfl) rfl (fun w hs => run_fieldAddr (o' := 5) Tryz.underlying36 rfl sz34 rfl rfl rfl) hK ?_
                                refine aw_take 1 rfl (by kernel_rfl) (by kernel_rfl) (by kernel_rfl) rfl (fun w hs => run_load Tryz.underlying34 rfl rfl (hs.cellAt 1 rfl rfl)) hK ?_
                                refine aw_take 2 rfl (by kernel_rfl) (by kernel_rfl) (by kernel_rfl) rfl (fun w hs => run_move (v := .int .i64 _) rfl) hK ?_
                                refine aw_take 3 rfl (by kernel_rfl) (by kernel_rfl) (by kernel_rfl) rfl (fun w hs => run_indexAddrK Tryz.underlying34 sz41 rfl rfl rfl (by omega) rfl) hK ?_
                                refine aw_take 4 rfl (by kernel_rfl) (by kernel_rfl) (by kernel_rfl) rfl (fun w hs => run_fieldAddr Tryz.underlying41 rfl sz9 rfl rfl rfl) hK ?_
                                refine aw_take 5 rfl (by kernel_rfl) (by kernel_rfl) (by kernel_rfl) rfl (fun w hs => run_load Tryz.underlying9 rfl rfl (hm.obs.cons.cons.cell hs (obL_at hy) (j := 0) rfl)) hK ?_
                                refine aw_take 6 rfl (by kernel_rfl) (by kernel_rfl) (by kernel_rfl) rfl (fun w hs => run_fieldAddr (o' := 5) Tryz.underlying36 rfl sz34 rfl rfl rfl) hK ?_
                                refine aw_take 7 rfl (by kernel_rfl) (by kernel_rfl) (by kernel_rfl) rfl (fun w hs => run_load Tryz.underlying34 rfl rfl (hs.cellAt 1 rfl rfl)) hK ?_
                                refine aw_take 8 rfl (by kernel_rfl) (by kernel_rfl) (by kernel_rfl) rfl (fun w hs => run_move (v := .int .i64 _) rfl) hK ?_
                                refine aw_take 9 rfl (by kernel_rfl) (by kernel_rfl) (by kernel_rfl) rfl (fun w hs => run_indexAddrK Tryz.underlying34 sz41 rfl rfl rfl (by omega) rfl) hK ?_
                                refine aw_take 10 rfl (by kernel_rfl) (by kernel_rfl) (by kernel_rfl) rfl (fun w hs => run_fieldAddr Tryz.underlying41 rfl sz9 rfl rfl rfl) hK ?_
                                refine aw_take 11 rfl (by kernel_rfl) (by kernel_rfl) (by kernel_rfl) rfl (fun w hs => run_load Tryz.underlying9 rfl rfl (hm.obs.cons.cons.cell hs (obL_at hz) (j := 0) rfl)) hK ?_
                                refine aw_take 12 rfl (by kernel_rfl) (by kernel_rfl) (by kernel_rfl) rfl (fun w hs => run_eqs rfl rfl) hK ?_
                                refine aw_done (by kernel_rfl) ?_
                                clear hK
                                refine cw_if rfl ?_ ?_
                                · intro h147
                                  have g147 := of_decide_eq_true h147
                                  refine cw_seq ?_
                                  refine cw_region ?_
                                  refine lw_call rfl en104 (bareR_sl hs 103) ?_
                                  clear hs
                                  rintro _ w ⟨rfl, hs⟩
                                  refine lw_storeRow hs 0 rfl rfl rfl sz79 rfl rfl ?_
                                  clear hs
                                  intro w hs
                                  try simp only [List.set_cons_succ, List.set_cons_zero] at hs
                                  refine lw_nil ?_
                                  refine cw_ret ?_
                                  refine resG [(.cell 2 79, .agg _)] rfl ⟨⟨_, rfl, res_row hs 0 rfl Tryz.underlying79 sz79⟩, trivial⟩ ?_
                                  exact ⟨_, rfl, by rw [obF_fine (by omega) hall, if_neg (dup_no (hX ▸ hy) (List.any_eq_true.2 ⟨z, List.mem_take_iff_getElem.2 ⟨x, by have := (List.getElem?_eq_some_iff.1 hz).1; omega, (List.getElem?_eq_some_iff.1 hz).2⟩, decide_eq_true g147.symm⟩))]; rfl, hs.tail.tail⟩
                                · intro h147
                                  have g147 := of_decide_eq_false h147
                                  refine cw_skip ?_
                                  refine cw_region ?_
                                  refine lw_val rfl (run_move (v := .int .i64 _) rfl) ?_
                                  refine lw_val rfl (run_add64 rfl rfl rfl (inI (by omega) (by omega))) ?_
                                  refine lw_val rfl (run_assign (v := .int .i64 _) rfl) ?_
                                  refine lw_nil ?_
                                  exact ⟨x + 1, by omega, ⟨by omega, by rw [List.take_add_one, hz, List.any_append, hq2]; simp; exact fun e => g147 e.symm, hs⟩, ⟨rfl, trivial⟩, by repeat (first | exact Out.mix _ _ _ | refine Out.updo rfl ?_ | refine Out.upd rfl ?_ | refine Out.mixIn rfl ?_)⟩
                              · intro h132
                                have g132 := of_decide_eq_false h132
                                refine cw_exit rfl ?_
                                refine cw_region ?_
                                refine lw_val rfl (run_move (v := .int .i64 _) rfl) ?_
                                refine lw_val rfl (run_add64 rfl rfl rfl (inI (by omega) (by omega))) ?_
                                refine lw_val rfl (run_assign (v := .int .i64 _) rfl) ?_
                                refine lw_nil ?_
                                have e : x = X := by omega
                                subst hX
                                subst e
                                exact ⟨x + 1, by omega, ⟨by omega, nodup_next hy hq1 hq2, hs⟩, ⟨rfl, trivial⟩, by repeat (first | exact Out.mix _ _ _ | refine Out.updo rfl ?_ | refine Out.upd rfl ?_ | refine Out.mixIn rfl ?_)⟩
                            · intro h127
                              have g127 := of_decide_eq_false h127
                              refine cw_exit rfl ?_
                              refine cw_seq ?_
                              refine cw_region ?_
                              refine lw_call rfl en133 (none_sl hs) ?_
                              clear hs
                              rintro _ w ⟨rfl, hs⟩
                              refine lw_storeRow hs 0 rfl rfl rfl sz79 rfl rfl ?_
                              clear hs
                              intro w hs
                              try simp only [List.set_cons_succ, List.set_cons_zero] at hs
                              refine lw_nil ?_
                              refine cw_ret ?_
                              refine resG [(.cell 2 79, .agg _)] rfl ⟨⟨_, rfl, res_row hs 0 rfl Tryz.underlying79 sz79⟩, trivial⟩ ?_
                              have e : x = m.obs.length := by omega
                              rw [e, List.take_length] at hq1
                              exact ⟨_, rfl, by rw [obF_fine (by omega) hall, if_pos hq1]; rfl, hs.tail.tail⟩
end Go.Proofs.YtkogkokmcmallaaGreatDoor
