/- Manifests: Valid, Same, Clone, Names; what may follow what. -/
import Derived.Test.YtkogkokmcmallaaGreatDoorMc
import Derived.Test.YtkogkokmcmallaaGreatDoorTx
namespace Go.Proofs.YtkogkokmcmallaaGreatDoor
set_option linter.all false
open Go.RowKit
attribute [local irreducible] errV
variable {g w : World} {L M : List HP} {ad : Nat → Addr} {p : Nat}

/-- A pair by its place. -/
theorem pr_get {l : List Pr} {i : Nat} {y : Pr} (h : l[i]? = some y) : l.getD i (0, 0) = y := by rw [List.getD_eq_getElem?_getD, h]; rfl
theorem epF_len {l : List Pr} (h : epF l = 0) : l.length ≤ 256 := by
  unfold epF at h
  split at h
  · cases h
  · omega
theorem validM_sl (hE : ErrV ad g) (hs : Mem g w L) {x : Mf} {e o : SA} (hm : MfR g L x e o) (hob : x.obs.length ≤ 1000000) : Calls Tryz.prog 107 #[.agg (mfL x e o).toArray] w (Ret (RetF ad (mfF x) g L)) := by
  obtain ⟨ea, ec⟩ := e
  refine calls_cw Tryz.func107 rfl rfl ?_
  skip
  refine cw_seq ?_
  refine cw_region ?_
  refine lw_box (v := .agg _) hs rfl rfl ?_
  clear hs
  intro b1 w hs
  try simp only [List.set_cons_succ, List.set_cons_zero] at hs
  refine lw_val rfl (run_assign (v := .nilIface) rfl) ?_
  refine lw_nil ?_
  refine cw_seq ?_
  refine cw_region ?_
  refine lw_val rfl (run_assign (v := .func _ _ _) rfl) ?_
  refine lw_nil ?_
  refine cw_seq ?_
  refine cw_seq ?_
  refine cw_region ?_
  refine lw_val rfl (run_fieldAddr (o' := 0) Tryz.underlying36 rfl sz3 rfl rfl rfl) ?_
  refine lw_val rfl (run_load Tryz.underlying3 rfl rfl (hs.cellAt 0 rfl rfl)) ?_
  refine lw_val rfl (run_lss rfl rfl) ?_
  refine lw_val rfl (run_move (v := .bool _) rfl) ?_
  refine lw_split (t := _) (d := 10) rfl ?_ ?_
  · intro h9
    have g9 := of_decide_eq_true h9
    refine lw_off rfl rfl rfl h9 ?_
    refine lw_off rfl rfl rfl h9 ?_
    refine lw_off rfl rfl rfl h9 ?_
    refine lw_val rfl (run_pickT (v := .bool _) rfl h9 rfl) ?_
    refine lw_val rfl (run_move (v := .bool _) rfl) ?_
    refine lw_off rfl rfl rfl rfl ?_
    refine lw_off rfl rfl rfl rfl ?_
    refine lw_off rfl rfl rfl rfl ?_
    refine lw_off rfl rfl rfl rfl ?_
    refine lw_off rfl rfl rfl rfl ?_
    refine lw_val rfl (run_pickT (v := .bool _) rfl rfl rfl) ?_
    refine lw_val rfl (run_move (v := .bool _) rfl) ?_
    refine lw_off rfl rfl rfl rfl ?_
    refine lw_off rfl rfl rfl rfl ?_
    refine lw_off rfl rfl rfl rfl ?_
    refine lw_off rfl rfl rfl rfl ?_
    refine lw_off rfl rfl rfl rfl ?_
    refine lw_val rfl (run_pickT (v := .bool _) rfl rfl rfl) ?_
    refine lw_val rfl (run_move (v := .bool _) rfl) ?_
    refine lw_off rfl rfl rfl rfl ?_
    refine lw_off rfl rfl rfl rfl ?_
    refine lw_off rfl rfl rfl rfl ?_
    refine lw_val rfl (run_pickT (v := .bool _) rfl rfl rfl) ?_
    refine lw_val rfl (run_move (v := .bool _) rfl) ?_
    refine lw_off rfl rfl rfl rfl ?_
    refine lw_off rfl rfl rfl rfl ?_
    refine lw_off rfl rfl rfl rfl ?_
    refine lw_val rfl (run_pickT (v := .bool _) rfl rfl rfl) ?_
    refine lw_val rfl (run_move (v := .bool _) rfl) ?_
    refine lw_off rfl rfl rfl rfl ?_
    refine lw_off rfl rfl rfl rfl ?_
    refine lw_off rfl rfl rfl rfl ?_
    refine lw_off rfl rfl rfl rfl ?_
    refine lw_off rfl rfl rfl rfl ?_
    refine lw_val rfl (run_pickT (v := .bool _) rfl rfl rfl) ?_
    refine lw_nil ?_
    refine cw_ift rfl rfl ?_
    refine cw_seq ?_
    refine cw_region ?_
    refine lw_val rfl (run_load Tryz.underlying30 rfl rfl (hE.cellW hs 105 (by decide) rfl)) ?_
    refine lw_val rfl (run_assign (v := errV ad _) rfl) ?_
    refine lw_nil ?_
    refine cw_ret ?_
    refine res1 (v := errV ad _) rfl rfl ?_
    have hr : rangeBad x = true := by simp [rangeBad, *]
    rw [mfF, if_pos hr]
    exact ⟨_, rfl, RetF.bare hs.tail⟩
  · intro h9
    have g9 := of_decide_eq_false h9
    refine lw_on rfl rfl h9 ?_
    refine lw_val rfl (run_fieldAddr (o' := 0) Tryz.underlying36 rfl sz3 rfl rfl rfl) ?_
    refine lw_on rfl rfl h9 ?_
    refine lw_val rfl (run_load Tryz.underlying3 rfl rfl (hs.cellAt 0 rfl rfl)) ?_
    refine lw_on rfl rfl h9 ?_
    refine lw_val rfl (run_gtr rfl rfl) ?_
    refine lw_val rfl (run_pickF (v := .bool _) rfl h9 rfl) ?_
    refine lw_val rfl (run_move (v := .bool _) rfl) ?_
    refine lw_split (t := _) (d := 15) rfl ?_ ?_
    · intro h13
      have g13 := of_decide_eq_true h13
      refine lw_off rfl rfl rfl h13 ?_
      refine lw_off rfl rfl rfl h13 ?_
      refine lw_off rfl rfl rfl h13 ?_
      refine lw_off rfl rfl rfl h13 ?_
      refine lw_off rfl rfl rfl h13 ?_
      refine lw_val rfl (run_pickT (v := .bool _) rfl h13 rfl) ?_
      refine lw_val rfl (run_move (v := .bool _) rfl) ?_
      refine lw_off rfl rfl rfl rfl ?_
      refine lw_off rfl rfl rfl rfl ?_
      refine lw_off rfl rfl rfl rfl ?_
      refine lw_off rfl rfl rfl rfl ?_
      refine lw_off rfl rfl rfl rfl ?_
      refine lw_val rfl (run_pickT (v := .bool _) rfl rfl rfl) ?_
      refine lw_val rfl (run_move (v := .bool _) rfl) ?_
      refine lw_off rfl rfl rfl rfl ?_
      refine lw_off rfl rfl rfl rfl ?_
      refine lw_off rfl rfl rfl rfl ?_
      refine lw_val rfl (run_pickT (v := .bool _) rfl rfl rfl) ?_
      refine lw_val rfl (run_move (v := .bool _) rfl) ?_
      refine lw_off rfl rfl rfl rfl ?_
      refine lw_off rfl rfl rfl rfl ?_
      refine lw_off rfl rfl rfl rfl ?_
      refine lw_val rfl (run_pickT (v := .bool _) rfl rfl rfl) ?_
      refine lw_val rfl (run_move (v := .bool _) rfl) ?_
      refine lw_off rfl rfl rfl rfl ?_
      refine lw_off rfl rfl rfl rfl ?_
      refine lw_off rfl rfl rfl rfl ?_
      refine lw_off rfl rfl rfl rfl ?_
      refine lw_off rfl rfl rfl rfl ?_
      refine lw_val rfl (run_pickT (v := .bool _) rfl rfl rfl) ?_
      refine lw_nil ?_
      refine cw_ift rfl rfl ?_
      refine cw_seq ?_
      refine cw_region ?_
      refine lw_val rfl (run_load Tryz.underlying30 rfl rfl (hE.cellW hs 105 (by decide) rfl)) ?_
      refine lw_val rfl (run_assign (v := errV ad _) rfl) ?_
      refine lw_nil ?_
      refine cw_ret ?_
      refine res1 (v := errV ad _) rfl rfl ?_
      have hr : rangeBad x = true := by simp [rangeBad, *]
      rw [mfF, if_pos hr]
      exact ⟨_, rfl, RetF.bare hs.tail⟩
    · intro h13
      have g13 := of_decide_eq_false h13
      refine lw_on rfl rfl h13 ?_
      refine lw_val rfl (run_move (v := .func _ _ _) rfl) ?_
      refine lw_on rfl rfl h13 ?_
      refine lw_val rfl (run_fieldAddr (o' := 1) Tryz.underlying36 rfl sz2 rfl rfl rfl) ?_
      refine lw_on rfl rfl h13 ?_
      refine lw_val rfl (run_load Tryz.underlying2 rfl rfl (hs.cellAt 0 rfl rfl)) ?_
      refine lw_on rfl rfl h13 ?_
      refine lw_callv rfl (cap := #[]) en190 rfl (right_sl hs x.base) ?_
      clear hs
      rintro _ w ⟨rfl, hs⟩
      refine lw_on rfl rfl h13 ?_
      refine lw_val rfl (run_not rfl) ?_
      refine lw_val rfl (run_pickF (v := .bool _) rfl h13 rfl) ?_
      refine lw_val rfl (run_move (v := .bool _) rfl) ?_
      refine lw_split (t := _) (d := 22) rfl ?_ ?_
      · intro h19
        replace h19 := not_b h19
        refine lw_off rfl rfl rfl (not_t h19) ?_
        refine lw_off rfl rfl rfl (not_t h19) ?_
        refine lw_off rfl rfl rfl (not_t h19) ?_
        refine lw_off rfl rfl rfl (not_t h19) ?_
        refine lw_off rfl rfl rfl (not_t h19) ?_
        refine lw_val rfl (run_pickT (v := .bool _) rfl (not_t h19) rfl) ?_
        refine lw_val rfl (run_move (v := .bool _) rfl) ?_
        refine lw_off rfl rfl rfl rfl ?_
        refine lw_off rfl rfl rfl rfl ?_
        refine lw_off rfl rfl rfl rfl ?_
        refine lw_val rfl (run_pickT (v := .bool _) rfl rfl rfl) ?_
        refine lw_val rfl (run_move (v := .bool _) rfl) ?_
        refine lw_off rfl rfl rfl rfl ?_
        refine lw_off rfl rfl rfl rfl ?_
        refine lw_off rfl rfl rfl rfl ?_
        refine lw_val rfl (run_pickT (v := .bool _) rfl rfl rfl) ?_
        refine lw_val rfl (run_move (v := .bool _) rfl) ?_
        refine lw_off rfl rfl rfl rfl ?_
        refine lw_off rfl rfl rfl rfl ?_
        refine lw_off rfl rfl rfl rfl ?_
        refine lw_off rfl rfl rfl rfl ?_
        refine lw_off rfl rfl rfl rfl ?_
        refine lw_val rfl (run_pickT (v := .bool _) rfl rfl rfl) ?_
        refine lw_nil ?_
        refine cw_ift rfl rfl ?_
        refine cw_seq ?_
        refine cw_region ?_
        refine lw_val rfl (run_load Tryz.underlying30 rfl rfl (hE.cellW hs 105 (by decide) rfl)) ?_
        refine lw_val rfl (run_assign (v := errV ad _) rfl) ?_
        refine lw_nil ?_
        refine cw_ret ?_
        refine res1 (v := errV ad _) rfl rfl ?_
        have hr : rangeBad x = true := by simp [rangeBad, *]
        rw [mfF, if_pos hr]
        exact ⟨_, rfl, RetF.bare hs.tail⟩
      · intro h19
        replace h19 := not_c h19
        refine lw_on rfl rfl (not_f h19) ?_
        refine lw_val rfl (run_move (v := .func _ _ _) rfl) ?_
        refine lw_on rfl rfl (not_f h19) ?_
        refine lw_val rfl (run_fieldAddr (o' := 2) Tryz.underlying36 rfl sz2 rfl rfl rfl) ?_
        refine lw_on rfl rfl (not_f h19) ?_
        refine lw_val rfl (run_load Tryz.underlying2 rfl rfl (hs.cellAt 0 rfl rfl)) ?_
        refine lw_on rfl rfl (not_f h19) ?_
        refine lw_callv rfl (cap := #[]) en190 rfl (right_sl hs x.fin) ?_
        clear hs
        rintro _ w ⟨rfl, hs⟩
        refine lw_on rfl rfl (not_f h19) ?_
        refine lw_val rfl (run_not rfl) ?_
        refine lw_val rfl (run_pickF (v := .bool _) rfl (not_f h19) rfl) ?_
        refine lw_val rfl (run_move (v := .bool _) rfl) ?_
        refine lw_split (t := _) (d := 29) rfl ?_ ?_
        · intro h26
          replace h26 := not_b h26
          refine lw_off rfl rfl rfl (not_t h26) ?_
          refine lw_off rfl rfl rfl (not_t h26) ?_
          refine lw_off rfl rfl rfl (not_t h26) ?_
          refine lw_val rfl (run_pickT (v := .bool _) rfl (not_t h26) rfl) ?_
          refine lw_val rfl (run_move (v := .bool _) rfl) ?_
          refine lw_off rfl rfl rfl rfl ?_
          refine lw_off rfl rfl rfl rfl ?_
          refine lw_off rfl rfl rfl rfl ?_
          refine lw_val rfl (run_pickT (v := .bool _) rfl rfl rfl) ?_
          refine lw_val rfl (run_move (v := .bool _) rfl) ?_
          refine lw_off rfl rfl rfl rfl ?_
          refine lw_off rfl rfl rfl rfl ?_
          refine lw_off rfl rfl rfl rfl ?_
          refine lw_off rfl rfl rfl rfl ?_
          refine lw_off rfl rfl rfl rfl ?_
          refine lw_val rfl (run_pickT (v := .bool _) rfl rfl rfl) ?_
          refine lw_nil ?_
          refine cw_ift rfl rfl ?_
          refine cw_seq ?_
          refine cw_region ?_
          refine lw_val rfl (run_load Tryz.underlying30 rfl rfl (hE.cellW hs 105 (by decide) rfl)) ?_
          refine lw_val rfl (run_assign (v := errV ad _) rfl) ?_
          refine lw_nil ?_
          refine cw_ret ?_
          refine res1 (v := errV ad _) rfl rfl ?_
          have hr : rangeBad x = true := by simp [rangeBad, *]
          rw [mfF, if_pos hr]
          exact ⟨_, rfl, RetF.bare hs.tail⟩
        · intro h26
          replace h26 := not_c h26
          refine lw_on rfl rfl (not_f h26) ?_
          refine lw_val rfl (run_fieldAddr (o' := 3) Tryz.underlying36 rfl sz2 rfl rfl rfl) ?_
          refine lw_on rfl rfl (not_f h26) ?_
          refine lw_val rfl (run_load Tryz.underlying2 rfl rfl (hs.cellAt 0 rfl rfl)) ?_
          refine lw_on rfl rfl (not_f h26) ?_
          refine lw_val rfl (run_lss rfl rfl) ?_
          refine lw_val rfl (run_pickF (v := .bool _) rfl (not_f h26) rfl) ?_
          refine lw_val rfl (run_move (v := .bool _) rfl) ?_
          refine lw_split (t := _) (d := 34) rfl ?_ ?_
          · intro h32
            have g32 := of_decide_eq_true h32
            refine lw_off rfl rfl rfl h32 ?_
            refine lw_off rfl rfl rfl h32 ?_
            refine lw_off rfl rfl rfl h32 ?_
            refine lw_val rfl (run_pickT (v := .bool _) rfl h32 rfl) ?_
            refine lw_val rfl (run_move (v := .bool _) rfl) ?_
            refine lw_off rfl rfl rfl rfl ?_
            refine lw_off rfl rfl rfl rfl ?_
            refine lw_off rfl rfl rfl rfl ?_
            refine lw_off rfl rfl rfl rfl ?_
            refine lw_off rfl rfl rfl rfl ?_
            refine lw_val rfl (run_pickT (v := .bool _) rfl rfl rfl) ?_
            refine lw_nil ?_
            refine cw_ift rfl rfl ?_
            refine cw_seq ?_
            refine cw_region ?_
            refine lw_val rfl (run_load Tryz.underlying30 rfl rfl (hE.cellW hs 105 (by decide) rfl)) ?_
            refine lw_val rfl (run_assign (v := errV ad _) rfl) ?_
            refine lw_nil ?_
            refine cw_ret ?_
            refine res1 (v := errV ad _) rfl rfl ?_
            have hr : rangeBad x = true := by simp [rangeBad, *]
            rw [mfF, if_pos hr]
            exact ⟨_, rfl, RetF.bare hs.tail⟩
          · intro h32
            have g32 := of_decide_eq_false h32
            refine lw_on rfl rfl h32 ?_
            refine lw_val rfl (run_fieldAddr (o' := 3) Tryz.underlying36 rfl sz2 rfl rfl rfl) ?_
            refine lw_on rfl rfl h32 ?_
            refine lw_val rfl (run_load Tryz.underlying2 rfl rfl (hs.cellAt 0 rfl rfl)) ?_
            refine lw_on rfl rfl h32 ?_
            refine lw_val rfl (run_gtr rfl rfl) ?_
            refine lw_val rfl (run_pickF (v := .bool _) rfl h32 rfl) ?_
            refine lw_val rfl (run_move (v := .bool _) rfl) ?_
            refine lw_split (t := _) (d := 39) rfl ?_ ?_
            · intro h37
              have g37 := of_decide_eq_true h37
              refine lw_off rfl rfl rfl h37 ?_
              refine lw_off rfl rfl rfl h37 ?_
              refine lw_off rfl rfl rfl h37 ?_
              refine lw_off rfl rfl rfl h37 ?_
              refine lw_off rfl rfl rfl h37 ?_
              refine lw_val rfl (run_pickT (v := .bool _) rfl h37 rfl) ?_
              refine lw_nil ?_
              refine cw_ift rfl rfl ?_
              refine cw_seq ?_
              refine cw_region ?_
              refine lw_val rfl (run_load Tryz.underlying30 rfl rfl (hE.cellW hs 105 (by decide) rfl)) ?_
              refine lw_val rfl (run_assign (v := errV ad _) rfl) ?_
              refine lw_nil ?_
              refine cw_ret ?_
              refine res1 (v := errV ad _) rfl rfl ?_
              have hr : rangeBad x = true := by simp [rangeBad, *]
              rw [mfF, if_pos hr]
              exact ⟨_, rfl, RetF.bare hs.tail⟩
            · intro h37
              have g37 := of_decide_eq_false h37
              refine lw_on rfl rfl h37 ?_
              refine lw_val rfl (run_fieldAddr (o' := 2) Tryz.underlying36 rfl sz2 rfl rfl rfl) ?_
              refine lw_on rfl rfl h37 ?_
              refine lw_val rfl (run_load Tryz.underlying2 rfl rfl (hs.cellAt 0 rfl rfl)) ?_
              refine lw_on rfl rfl h37 ?_
              refine lw_val rfl (run_fieldAddr (o' := 1) Tryz.underlying36 rfl sz2 rfl rfl rfl) ?_
              refine lw_on rfl rfl h37 ?_
              refine lw_val rfl (run_load Tryz.underlying2 rfl rfl (hs.cellAt 0 rfl rfl)) ?_
              refine lw_on rfl rfl h37 ?_
              refine lw_val rfl (run_leq rfl rfl) ?_
              refine lw_val rfl (run_pickF (v := .bool _) rfl h37 rfl) ?_
              refine lw_nil ?_
              refine cw_if rfl ?_ ?_
              · intro h44
                have g44 := of_decide_eq_true h44
                refine cw_seq ?_
                refine cw_region ?_
                refine lw_val rfl (run_load Tryz.underlying30 rfl rfl (hE.cellW hs 105 (by decide) rfl)) ?_
                refine lw_val rfl (run_assign (v := errV ad _) rfl) ?_
                refine lw_nil ?_
                refine cw_ret ?_
                refine res1 (v := errV ad _) rfl rfl ?_
                have hr : rangeBad x = true := by simp [rangeBad, *]
                rw [mfF, if_pos hr]
                exact ⟨_, rfl, RetF.bare hs.tail⟩
              · intro h44
                have g44 := of_decide_eq_false h44
                refine cw_skip ?_
                refine cw_seq ?_
                refine cw_seq ?_
                refine cw_region ?_
                refine lw_val rfl (run_fieldAddr (o' := 4) Tryz.underlying36 rfl sz33 rfl rfl rfl) ?_
                refine lw_val rfl (run_load Tryz.underlying33 rfl rfl (hs.cellAt 0 rfl rfl)) ?_
                refine lw_call rfl en191 (epNew_sl hE hs hm.eps.cons rfl) ?_
                clear hs
                rintro _ w ⟨q, rfl, hs⟩
                refine lw_val rfl (run_move (v := .tuple _) rfl) ?_
                refine lw_val rfl (run_extract (v := .pointer _) rfl rfl) ?_
                refine lw_val rfl (run_extract (v := errV ad _) rfl rfl) ?_
                refine lw_val rfl (run_assign (v := .pointer _) rfl) ?_
                refine lw_val rfl (run_assign (v := errV ad _) rfl) ?_
                refine lw_nil ?_
                refine cw_seq ?_
                refine cw_region ?_
                refine lw_val rfl (run_move (v := errV ad _) rfl) ?_
                refine lw_val rfl (run_neerrn (ad := ad) rfl) ?_
                refine lw_nil ?_
                refine cw_if rfl ?_ ?_
                · intro h54
                  have g54 := ne_t h54
                  refine cw_seq ?_
                  refine cw_region ?_
                  refine lw_val rfl (run_move (v := errV ad _) rfl) ?_
                  refine lw_val rfl (run_assign (v := errV ad _) rfl) ?_
                  refine lw_nil ?_
                  refine cw_ret ?_
                  refine res1 (v := errV ad _) rfl rfl ?_
                  have hr : rangeBad x = false := by simp [rangeBad, *]
                  have hep : epF x.eps ≠ 0 := by simpa using h54
                  rw [mfF, if_neg (by rw [hr]; decide), if_pos hep]
                  exact ⟨_, rfl, RetF.bare hs.tail⟩
                · intro h54
                  have g54 := ne_f h54
                  refine cw_skip ?_
                  refine cw_seq ?_
                  refine cw_seq ?_
                  refine cw_region ?_
                  refine lw_val rfl (run_fieldAddr (o' := 4) Tryz.underlying36 rfl sz33 rfl rfl rfl) ?_
                  refine lw_val rfl (run_load Tryz.underlying33 rfl rfl (hs.cellAt 0 rfl rfl)) ?_
                  refine lw_val rfl (run_lenS Tryz.underlying33 rfl) ?_
                  refine lw_val rfl (run_assign (v := .int .i64 _) rfl) ?_
                  refine lw_nil ?_
                  refine cw_seq ?_
                  refine cw_drawS mixes hs ?_
                  intro w tr hK
                  replace hs := tr _ hs
                  clear tr
                  refine aw_take 0 rfl (by kernel_rfl) (by kernel_rfl) (by kernel_rfl) rfl (fun w hs => run_move (v := .int .i64 _) rfl) hK ?_
                  refine aw_take 1 rfl (by kernel_rfl) (by kernel_rfl) (by kernel_rfl) rfl (fun w hs => run_eqi rfl rfl) hK ?_
                  refine aw_take 2 rfl (by kernel_rfl) (by kernel_rfl) (by kernel_rfl) rfl (fun w hs => run_move (v := .bool _) rfl) hK ?_
                  refine aw_split (t := _) (d := 61) rfl ?_ ?_
                  · intro h60
                    have g60 := of_decide_eq_true h60
                    refine aw_takeOff 3 rfl (by kernel_rfl) (by kernel_rfl) (by kernel_rfl) rfl rfl rfl h60 hK ?_
                    refine aw_takeOff 4 rfl (by kernel_rfl) (by kernel_rfl) (by kernel_rfl) rfl rfl rfl h60 hK ?_
                    refine aw_takeOff 5 rfl (by kernel_rfl) (by kernel_rfl) (by kernel_rfl) rfl rfl rfl h60 hK ?_
                    refine aw_takeOff 6 rfl (by kernel_rfl) (by kernel_rfl) (by kernel_rfl) rfl rfl rfl h60 hK ?_
                    refine aw_takeOff 7 rfl (by kernel_rfl) (by kernel_rfl) (by kernel_rfl) rfl rfl rfl h60 hK ?_
                    refine aw_takeOff 8 rfl (by kernel_rfl) (by kernel_rfl) (by kernel_rfl) rfl rfl rfl h60 hK ?_
                    refine aw_takeOff 9 rfl (by kernel_rfl) (by kernel_rfl) (by kernel_rfl) rfl rfl rfl h60 hK ?_
                    refine aw_takeOff 10 rfl (by kernel_rfl) (by kernel_rfl) (by kernel_rfl) rfl rfl rfl h60 hK ?_
                    refine aw_take 11 rfl (by kernel_rfl) (by kernel_rfl) (by kernel_rfl) rfl (fun w hs => run_pickT (v := .bool _) rfl h60 rfl) hK ?_
                    refine aw_take 12 rfl (by kernel_rfl) (by kernel_rfl) (by kernel_rfl) rfl (fun w hs => run_move (v := .bool _) rfl) hK ?_
                    refine aw_takeOff 13 rfl (by kernel_rfl) (by kernel_rfl) (by kernel_rfl) rfl rfl rfl rfl hK ?_
                    refine aw_takeOff 14 rfl (by kernel_rfl) (by kernel_rfl) (by kernel_rfl) rfl rfl rfl rfl hK ?_
                    refine aw_takeOff 15 rfl (by kernel_rfl) (by kernel_rfl) (by kernel_rfl) rfl rfl rfl rfl hK ?_
                    refine aw_takeOff 16 rfl (by kernel_rfl) (by kernel_rfl) (by kernel_rfl) rfl rfl rfl rfl hK ?_
                    refine aw_takeOff 17 rfl (by kernel_rfl) (by kernel_rfl) (by kernel_rfl) rfl rfl rfl rfl hK ?_
                    refine aw_takeOff 18 rfl (by kernel_rfl) (by kernel_rfl) (by kernel_rfl) rfl rfl rfl rfl hK ?_
                    refine aw_takeOff 19 rfl (by kernel_rfl) (by kernel_rfl) (by kernel_rfl) rfl rfl rfl rfl hK ?_
                    refine aw_takeOff 20 rfl (by kernel_rfl) (by kernel_rfl) (by kernel_rfl) rfl rfl rfl rfl hK ?_
                    refine aw_takeOff 21 rfl (by kernel_rfl) (by kernel_rfl) (by kernel_rfl) rfl rfl rfl rfl hK ?_
                    refine aw_takeOff 22 rfl (by kernel_rfl) (by kernel_rfl) (by kernel_rfl) rfl rfl rfl rfl hK ?_
                    refine aw_take 23 rfl (by kernel_rfl) (by kernel_rfl) (by kernel_rfl) rfl (fun w hs => run_pickT (v := .bool _) rfl rfl rfl) hK ?_
                    refine aw_done (by kernel_rfl) ?_
                    clear hK
                    refine cw_ift rfl rfl ?_
                    refine cw_seq ?_
                    refine cw_region ?_
                    refine lw_val rfl (run_load Tryz.underlying30 rfl rfl (hE.cellW hs 103 (by decide) rfl)) ?_
                    refine lw_val rfl (run_assign (v := errV ad _) rfl) ?_
                    refine lw_nil ?_
                    refine cw_ret ?_
                    refine res1 (v := errV ad _) rfl rfl ?_
                    have hr : rangeBad x = false := by simp [rangeBad, *]
                    have hep : ¬ epF x.eps ≠ 0 := by simpa using h54
                    have hsb : shapeBad x = true := by rw [shapeBad, decide_eq_true (show x.eps.length = 0 by omega)]; rfl
                    rw [mfF, if_neg (by rw [hr]; decide), if_neg hep, if_pos hsb]
                    exact ⟨_, rfl, RetF.bare hs.tail⟩
                  · intro h60
                    have g60 := of_decide_eq_false h60
                    obtain ⟨y0, hy0⟩ : ∃ y, x.eps[0]? = some y := ⟨_, List.getElem?_eq_getElem (by omega)⟩
                    obtain ⟨y1, hy1⟩ : ∃ y, x.eps[x.eps.length - 1]? = some y := ⟨_, List.getElem?_eq_getElem (by omega)⟩
                    obtain ⟨b1, o1, rfl⟩ := hm.eps.cons.at hs (by rw [len_prL]; omega)
                    have hlen := epF_len (show epF x.eps = 0 by simpa using h54)
                    refine aw_takeOn 3 rfl (by kernel_rfl) (by kernel_rfl) (by kernel_rfl) rfl rfl rfl h60 (fun w hs => run_fieldAddr (o' := 4) Tryz.underlying36 rfl sz33 rfl rfl rfl) hK ?_
                    refine aw_takeOn 4 rfl (by kernel_rfl) (by kernel_rfl) (by kernel_rfl) rfl rfl rfl h60 (fun w hs => run_load Tryz.underlying33 rfl rfl (hs.cellAt 0 rfl rfl)) hK ?_
                    refine aw_takeOn 5 rfl (by kernel_rfl) (by kernel_rfl) (by kernel_rfl) rfl rfl rfl h60 (fun w hs => run_indexAddrK Tryz.underlying33 sz141 rfl rfl (i := 0) rfl (by omega) rfl) hK ?_
                    refine aw_takeOn 6 rfl (by kernel_rfl) (by kernel_rfl) (by kernel_rfl) rfl rfl rfl h60 (fun w hs => run_fieldAddr Tryz.underlying141 rfl sz2 rfl rfl rfl) hK ?_
                    refine aw_takeOn 7 rfl (by kernel_rfl) (by kernel_rfl) (by kernel_rfl) rfl rfl rfl h60 (fun w hs => run_load Tryz.underlying2 rfl rfl (hm.eps.cons.cell hs (prL_at hy0) (j := 1) rfl)) hK ?_
                    refine aw_takeOn 8 rfl (by kernel_rfl) (by kernel_rfl) (by kernel_rfl) rfl rfl rfl h60 (fun w hs => run_fieldAddr (o' := 1) Tryz.underlying36 rfl sz2 rfl rfl rfl) hK ?_
                    refine aw_takeOn 9 rfl (by kernel_rfl) (by kernel_rfl) (by kernel_rfl) rfl rfl rfl h60 (fun w hs => run_load Tryz.underlying2 rfl rfl (hs.cellAt 0 rfl rfl)) hK ?_
                    refine aw_takeOn 10 rfl (by kernel_rfl) (by kernel_rfl) (by kernel_rfl) rfl rfl rfl h60 (fun w hs => run_nei rfl rfl) hK ?_
                    refine aw_take 11 rfl (by kernel_rfl) (by kernel_rfl) (by kernel_rfl) rfl (fun w hs => run_pickF (v := .bool _) rfl h60 rfl) hK ?_
                    refine aw_take 12 rfl (by kernel_rfl) (by kernel_rfl) (by kernel_rfl) rfl (fun w hs => run_move (v := .bool _) rfl) hK ?_
                    refine aw_split (t := _) (d := 71) rfl ?_ ?_
                    · intro h69
                      have g69 := ne_t h69
                      refine aw_takeOff 13 rfl (by kernel_rfl) (by kernel_rfl) (by kernel_rfl) rfl rfl rfl h69 hK ?_
                      refine aw_takeOff 14 rfl (by kernel_rfl) (by kernel_rfl) (by kernel_rfl) rfl rfl rfl h69 hK ?_
                      refine aw_takeOff 15 rfl (by kernel_rfl) (by kernel_rfl) (by kernel_rfl) rfl rfl rfl h69 hK ?_
                      refine aw_takeOff 16 rfl (by kernel_rfl) (by kernel_rfl) (by kernel_rfl) rfl rfl rfl h69 hK ?_
                      refine aw_takeOff 17 rfl (by kernel_rfl) (by kernel_rfl) (by kernel_rfl) rfl rfl rfl h69 hK ?_
                      refine aw_takeOff 18 rfl (by kernel_rfl) (by kernel_rfl) (by kernel_rfl) rfl rfl rfl h69 hK ?_
                      refine aw_takeOff 19 rfl (by kernel_rfl) (by kernel_rfl) (by kernel_rfl) rfl rfl rfl h69 hK ?_
                      refine aw_takeOff 20 rfl (by kernel_rfl) (by kernel_rfl) (by kernel_rfl) rfl rfl rfl h69 hK ?_
                      refine aw_takeOff 21 rfl (by kernel_rfl) (by kernel_rfl) (by kernel_rfl) rfl rfl rfl h69 hK ?_
                      refine aw_takeOff 22 rfl (by kernel_rfl) (by kernel_rfl) (by kernel_rfl) rfl rfl rfl h69 hK ?_
                      refine aw_take 23 rfl (by kernel_rfl) (by kernel_rfl) (by kernel_rfl) rfl (fun w hs => run_pickT (v := .bool _) rfl h69 rfl) hK ?_
                      refine aw_done (by kernel_rfl) ?_
                      clear hK
                      refine cw_ift rfl rfl ?_
                      refine cw_seq ?_
                      refine cw_region ?_
                      refine lw_val rfl (run_load Tryz.underlying30 rfl rfl (hE.cellW hs 103 (by decide) rfl)) ?_
                      refine lw_val rfl (run_assign (v := errV ad _) rfl) ?_
                      refine lw_nil ?_
                      refine cw_ret ?_
                      refine res1 (v := errV ad _) rfl rfl ?_
                      have hr : rangeBad x = false := by simp [rangeBad, *]
                      have hep : ¬ epF x.eps ≠ 0 := by simpa using h54
                      have hsb : shapeBad x = true := by simp only [shapeBad, pr_get hy0, pr_get hy1]; simp; omega
                      rw [mfF, if_neg (by rw [hr]; decide), if_neg hep, if_pos hsb]
                      exact ⟨_, rfl, RetF.bare hs.tail⟩
                    · intro h69
                      have g69 := ne_f h69
                      refine aw_takeOn 13 rfl (by kernel_rfl) (by kernel_rfl) (by kernel_rfl) rfl rfl rfl h69 (fun w hs => run_fieldAddr (o' := 4) Tryz.underlying36 rfl sz33 rfl rfl rfl) hK ?_
                      refine aw_takeOn 14 rfl (by kernel_rfl) (by kernel_rfl) (by kernel_rfl) rfl rfl rfl h69 (fun w hs => run_load Tryz.underlying33 rfl rfl (hs.cellAt 0 rfl rfl)) hK ?_
                      refine aw_takeOn 15 rfl (by kernel_rfl) (by kernel_rfl) (by kernel_rfl) rfl rfl rfl h69 (fun w hs => run_move (v := .int .i64 _) rfl) hK ?_
                      refine aw_takeOn 16 rfl (by kernel_rfl) (by kernel_rfl) (by kernel_rfl) rfl rfl rfl h69 (fun w hs => run_sub64 rfl rfl (c := ((x.eps.length - 1 : Nat) : Int)) (by omega) (inI (by omega) (by omega))) hK ?_
                      refine aw_takeOn 17 rfl (by kernel_rfl) (by kernel_rfl) (by kernel_rfl) rfl rfl rfl h69 (fun w hs => run_indexAddrK Tryz.underlying33 sz141 rfl rfl rfl (by omega) rfl) hK ?_
                      refine aw_takeOn 18 rfl (by kernel_rfl) (by kernel_rfl) (by kernel_rfl) rfl rfl rfl h69 (fun w hs => run_fieldAddr Tryz.underlying141 rfl sz2 rfl rfl rfl) hK ?_
                      refine aw_takeOn 19 rfl (by kernel_rfl) (by kernel_rfl) (by kernel_rfl) rfl rfl rfl h69 (fun w hs => run_load Tryz.underlying2 rfl rfl (hm.eps.cons.cell hs (prL_at hy1) (j := 1) rfl)) hK ?_
                      refine aw_takeOn 20 rfl (by kernel_rfl) (by kernel_rfl) (by kernel_rfl) rfl rfl rfl h69 (fun w hs => run_fieldAddr (o' := 2) Tryz.underlying36 rfl sz2 rfl rfl rfl) hK ?_
                      refine aw_takeOn 21 rfl (by kernel_rfl) (by kernel_rfl) (by kernel_rfl) rfl rfl rfl h69 (fun w hs => run_load Tryz.underlying2 rfl rfl (hs.cellAt 0 rfl rfl)) hK ?_
                      refine aw_takeOn 22 rfl (by kernel_rfl) (by kernel_rfl) (by kernel_rfl) rfl rfl rfl h69 (fun w hs => run_geq rfl rfl) hK ?_
                      refine aw_take 23 rfl (by kernel_rfl) (by kernel_rfl) (by kernel_rfl) rfl (fun w hs => run_pickF (v := .bool _) rfl h69 rfl) hK ?_
                      refine aw_done (by kernel_rfl) ?_
                      clear hK
                      refine cw_if rfl ?_ ?_
                      · intro h81
                        have g81 := of_decide_eq_true h81
                        refine cw_seq ?_
                        refine cw_region ?_
                        refine lw_val rfl (run_load Tryz.underlying30 rfl rfl (hE.cellW hs 103 (by decide) rfl)) ?_
                        refine lw_val rfl (run_assign (v := errV ad _) rfl) ?_
                        refine lw_nil ?_
                        refine cw_ret ?_
                        refine res1 (v := errV ad _) rfl rfl ?_
                        have hr : rangeBad x = false := by simp [rangeBad, *]
                        have hep : ¬ epF x.eps ≠ 0 := by simpa using h54
                        have hsb : shapeBad x = true := by simp only [shapeBad, pr_get hy0, pr_get hy1]; simp; omega
                        rw [mfF, if_neg (by rw [hr]; decide), if_neg hep, if_pos hsb]
                        exact ⟨_, rfl, RetF.bare hs.tail⟩
                      · intro h81
                        have g81 := of_decide_eq_false h81
                        refine cw_skip ?_
                        refine cw_seq ?_
                        refine cw_region ?_
                        refine lw_val rfl (run_fieldAddr (o' := 5) Tryz.underlying36 rfl sz34 rfl rfl rfl) ?_
                        refine lw_val rfl (run_load Tryz.underlying34 rfl rfl (hs.cellAt 0 rfl rfl)) ?_
                        refine lw_call rfl en192 (objects_sl hE hs hm.obs.cons rfl hob) ?_
                        clear hs
                        rintro _ w ⟨eb, rfl, hs⟩
                        refine lw_val rfl (run_assign (v := flV ad _ _) rfl) ?_
                        refine lw_nil ?_
                        refine cw_ret ?_
                        refine res1 (v := flV ad _ _) rfl rfl ?_
                        have hr : rangeBad x = false := by simp [rangeBad, *]
                        have hep : ¬ epF x.eps ≠ 0 := by simpa using h54
                        have hsb : shapeBad x = false := by rw [shapeBad, pr_get hy0, pr_get hy1, decide_eq_false (show ¬ x.eps.length = 0 by omega), decide_eq_false (show ¬ y0.2 ≠ x.base by omega), decide_eq_false (show ¬ x.fin ≤ y1.2 by omega)]; rfl
                        rw [mfF, if_neg (by rw [hr]; decide), if_neg hep, if_neg (by rw [hsb]; decide)]
                        exact ⟨_, rfl, eb, rfl, hs.arr [0] 2 (by decide)⟩
theorem sameM_sl (hs : Mem g w L) {x y : Mf} {e o e2 o2 : SA} (hx : MfR g L x e o) (hy : MfR g L y e2 o2) (h1 : x.eps.length ≤ 1000000) (h2 : x.obs.length ≤ 1000000) : Calls Tryz.prog 109 #[.agg (mfL x e o).toArray, .agg (mfL y e2 o2).toArray] w (Ret fun v w' => v = .bool (decide (x = y)) ∧ Mem g w' L) := by
  refine calls_cw Tryz.func109 rfl rfl ?_
  skip
  refine cw_seq ?_
  refine cw_region ?_
  refine lw_box (v := .agg _) hs rfl rfl ?_
  clear hs
  intro b2 w hs
  try simp only [List.set_cons_succ, List.set_cons_zero] at hs
  refine lw_box (v := .agg _) hs rfl rfl ?_
  clear hs
  intro b3 w hs
  try simp only [List.set_cons_succ, List.set_cons_zero] at hs
  refine lw_val rfl (run_assign (v := .bool _) rfl) ?_
  refine lw_nil ?_
  refine cw_seq ?_
  refine cw_region ?_
  refine lw_val rfl (run_fieldAddr (o' := 0) Tryz.underlying36 rfl sz3 rfl rfl rfl) ?_
  refine lw_val rfl (run_load Tryz.underlying3 rfl rfl (hs.cellAt 1 rfl rfl)) ?_
  refine lw_val rfl (run_fieldAddr (o' := 0) Tryz.underlying36 rfl sz3 rfl rfl rfl) ?_
  refine lw_val rfl (run_load Tryz.underlying3 rfl rfl (hs.cellAt 0 rfl rfl)) ?_
  refine lw_val rfl (run_eqi rfl rfl) ?_
  refine lw_val rfl (run_move (v := .bool _) rfl) ?_
  refine lw_split (t := _) (d := 10) rfl ?_ ?_
  · intro h9
    have g9 := of_decide_eq_true h9
    refine lw_on rfl rfl h9 ?_
    refine lw_val rfl (run_fieldAddr (o' := 1) Tryz.underlying36 rfl sz2 rfl rfl rfl) ?_
    refine lw_on rfl rfl h9 ?_
    refine lw_val rfl (run_load Tryz.underlying2 rfl rfl (hs.cellAt 1 rfl rfl)) ?_
    refine lw_on rfl rfl h9 ?_
    refine lw_val rfl (run_fieldAddr (o' := 1) Tryz.underlying36 rfl sz2 rfl rfl rfl) ?_
    refine lw_on rfl rfl h9 ?_
    refine lw_val rfl (run_load Tryz.underlying2 rfl rfl (hs.cellAt 0 rfl rfl)) ?_
    refine lw_on rfl rfl h9 ?_
    refine lw_val rfl (run_eqi rfl rfl) ?_
    refine lw_val rfl (run_pickT (v := .bool _) rfl h9 rfl) ?_
    refine lw_val rfl (run_move (v := .bool _) rfl) ?_
    refine lw_split (t := _) (d := 17) rfl ?_ ?_
    · intro h15
      have g15 := of_decide_eq_true h15
      refine lw_on rfl rfl h15 ?_
      refine lw_val rfl (run_fieldAddr (o' := 2) Tryz.underlying36 rfl sz2 rfl rfl rfl) ?_
      refine lw_on rfl rfl h15 ?_
      refine lw_val rfl (run_load Tryz.underlying2 rfl rfl (hs.cellAt 1 rfl rfl)) ?_
      refine lw_on rfl rfl h15 ?_
      refine lw_val rfl (run_fieldAddr (o' := 2) Tryz.underlying36 rfl sz2 rfl rfl rfl) ?_
      refine lw_on rfl rfl h15 ?_
      refine lw_val rfl (run_load Tryz.underlying2 rfl rfl (hs.cellAt 0 rfl rfl)) ?_
      refine lw_on rfl rfl h15 ?_
      refine lw_val rfl (run_eqi rfl rfl) ?_
      refine lw_val rfl (run_pickT (v := .bool _) rfl h15 rfl) ?_
      refine lw_val rfl (run_move (v := .bool _) rfl) ?_
      refine lw_split (t := _) (d := 24) rfl ?_ ?_
      · intro h22
        have g22 := of_decide_eq_true h22
        refine lw_on rfl rfl h22 ?_
        refine lw_val rfl (run_fieldAddr (o' := 3) Tryz.underlying36 rfl sz2 rfl rfl rfl) ?_
        refine lw_on rfl rfl h22 ?_
        refine lw_val rfl (run_load Tryz.underlying2 rfl rfl (hs.cellAt 1 rfl rfl)) ?_
        refine lw_on rfl rfl h22 ?_
        refine lw_val rfl (run_fieldAddr (o' := 3) Tryz.underlying36 rfl sz2 rfl rfl rfl) ?_
        refine lw_on rfl rfl h22 ?_
        refine lw_val rfl (run_load Tryz.underlying2 rfl rfl (hs.cellAt 0 rfl rfl)) ?_
        refine lw_on rfl rfl h22 ?_
        refine lw_val rfl (run_eqi rfl rfl) ?_
        refine lw_val rfl (run_pickT (v := .bool _) rfl h22 rfl) ?_
        refine lw_val rfl (run_move (v := .bool _) rfl) ?_
        refine lw_split (t := _) (d := 31) rfl ?_ ?_
        · intro h29
          have g29 := of_decide_eq_true h29
          refine lw_on rfl rfl h29 ?_
          refine lw_val rfl (run_fieldAddr (o' := 4) Tryz.underlying36 rfl sz33 rfl rfl rfl) ?_
          refine lw_on rfl rfl h29 ?_
          refine lw_val rfl (run_load Tryz.underlying33 rfl rfl (hs.cellAt 1 rfl rfl)) ?_
          refine lw_on rfl rfl h29 ?_
          refine lw_val rfl (run_fieldAddr (o' := 4) Tryz.underlying36 rfl sz33 rfl rfl rfl) ?_
          refine lw_on rfl rfl h29 ?_
          refine lw_val rfl (run_load Tryz.underlying33 rfl rfl (hs.cellAt 0 rfl rfl)) ?_
          refine lw_on rfl rfl h29 ?_
          refine lw_call rfl en193 (eqPr_sl hs hx.eps.cons.cons hy.eps.cons.cons rfl rfl h1) ?_
          clear hs
          rintro _ w ⟨rfl, hs⟩
          refine lw_val rfl (run_pickT (v := .bool _) rfl h29 rfl) ?_
          refine lw_val rfl (run_move (v := .bool _) rfl) ?_
          refine lw_split (t := _) (d := 38) rfl ?_ ?_
          · intro h36
            refine lw_on rfl rfl h36 ?_
            refine lw_val rfl (run_fieldAddr (o' := 5) Tryz.underlying36 rfl sz34 rfl rfl rfl) ?_
            refine lw_on rfl rfl h36 ?_
            refine lw_val rfl (run_load Tryz.underlying34 rfl rfl (hs.cellAt 1 rfl rfl)) ?_
            refine lw_on rfl rfl h36 ?_
            refine lw_val rfl (run_fieldAddr (o' := 5) Tryz.underlying36 rfl sz34 rfl rfl rfl) ?_
            refine lw_on rfl rfl h36 ?_
            refine lw_val rfl (run_load Tryz.underlying34 rfl rfl (hs.cellAt 0 rfl rfl)) ?_
            refine lw_on rfl rfl h36 ?_
            refine lw_call rfl en194 (eqOb_sl hs hx.obs.cons.cons hy.obs.cons.cons rfl rfl h2) ?_
            clear hs
            rintro _ w ⟨rfl, hs⟩
            refine lw_val rfl (run_pickT (v := .bool _) rfl h36 rfl) ?_
            refine lw_val rfl (run_assign (v := .bool _) rfl) ?_
            refine lw_nil ?_
            refine cw_ret ?_
            refine res1 (v := .bool _) rfl rfl ?_
            exact ⟨_, rfl, ret_b (by have e1 := of_decide_eq_true h36; exact decide_eq_decide.2 ⟨fun q => by obtain ⟨x1, x2, x3, x4, x5, x6⟩ := x; obtain ⟨y1, y2, y3, y4, y5, y6⟩ := y; simp only at *; subst g9 g15 g22 g29 e1 q; rfl, fun q => by rw [q]⟩), hs.tail.tail⟩
          · intro h36
            refine lw_off rfl rfl rfl h36 ?_
            refine lw_off rfl rfl rfl h36 ?_
            refine lw_off rfl rfl rfl h36 ?_
            refine lw_off rfl rfl rfl h36 ?_
            refine lw_off rfl rfl rfl h36 ?_
            refine lw_val rfl (run_pickF (v := .bool _) rfl h36 rfl) ?_
            refine lw_val rfl (run_assign (v := .bool _) rfl) ?_
            refine lw_nil ?_
            refine cw_ret ?_
            refine res1 (v := .bool _) rfl rfl ?_
            exact ⟨_, rfl, ret_b (decide_eq_false (fun q => of_decide_eq_false h36 (by rw [q]))).symm, hs.tail.tail⟩
        · intro h29
          have g29 := of_decide_eq_false h29
          refine lw_off rfl rfl rfl h29 ?_
          refine lw_off rfl rfl rfl h29 ?_
          refine lw_off rfl rfl rfl h29 ?_
          refine lw_off rfl rfl rfl h29 ?_
          refine lw_off rfl rfl rfl h29 ?_
          refine lw_val rfl (run_pickF (v := .bool _) rfl h29 rfl) ?_
          refine lw_val rfl (run_move (v := .bool _) rfl) ?_
          refine lw_off rfl rfl rfl rfl ?_
          refine lw_off rfl rfl rfl rfl ?_
          refine lw_off rfl rfl rfl rfl ?_
          refine lw_off rfl rfl rfl rfl ?_
          refine lw_off rfl rfl rfl rfl ?_
          refine lw_val rfl (run_pickF (v := .bool _) rfl rfl rfl) ?_
          refine lw_val rfl (run_assign (v := .bool _) rfl) ?_
          refine lw_nil ?_
          refine cw_ret ?_
          refine res1 (v := .bool _) rfl rfl ?_
          exact ⟨_, rfl, ret_b (decide_eq_false (fun q => g29 (by rw [q]))).symm, hs.tail.tail⟩
      · intro h22
        have g22 := of_decide_eq_false h22
        refine lw_off rfl rfl rfl h22 ?_
        refine lw_off rfl rfl rfl h22 ?_
        refine lw_off rfl rfl rfl h22 ?_
        refine lw_off rfl rfl rfl h22 ?_
        refine lw_off rfl rfl rfl h22 ?_
        refine lw_val rfl (run_pickF (v := .bool _) rfl h22 rfl) ?_
        refine lw_val rfl (run_move (v := .bool _) rfl) ?_
        refine lw_off rfl rfl rfl rfl ?_
        refine lw_off rfl rfl rfl rfl ?_
        refine lw_off rfl rfl rfl rfl ?_
        refine lw_off rfl rfl rfl rfl ?_
        refine lw_off rfl rfl rfl rfl ?_
        refine lw_val rfl (run_pickF (v := .bool _) rfl rfl rfl) ?_
        refine lw_val rfl (run_move (v := .bool _) rfl) ?_
        refine lw_off rfl rfl rfl rfl ?_
        refine lw_off rfl rfl rfl rfl ?_
        refine lw_off rfl rfl rfl rfl ?_
        refine lw_off rfl rfl rfl rfl ?_
        refine lw_off rfl rfl rfl rfl ?_
        refine lw_val rfl (run_pickF (v := .bool _) rfl rfl rfl) ?_
        refine lw_val rfl (run_assign (v := .bool _) rfl) ?_
        refine lw_nil ?_
        refine cw_ret ?_
        refine res1 (v := .bool _) rfl rfl ?_
        exact ⟨_, rfl, ret_b (decide_eq_false (fun q => g22 (by rw [q]))).symm, hs.tail.tail⟩
    · intro h15
      have g15 := of_decide_eq_false h15
      refine lw_off rfl rfl rfl h15 ?_
      refine lw_off rfl rfl rfl h15 ?_
      refine lw_off rfl rfl rfl h15 ?_
      refine lw_off rfl rfl rfl h15 ?_
      refine lw_off rfl rfl rfl h15 ?_
      refine lw_val rfl (run_pickF (v := .bool _) rfl h15 rfl) ?_
      refine lw_val rfl (run_move (v := .bool _) rfl) ?_
      refine lw_off rfl rfl rfl rfl ?_
      refine lw_off rfl rfl rfl rfl ?_
      refine lw_off rfl rfl rfl rfl ?_
      refine lw_off rfl rfl rfl rfl ?_
      refine lw_off rfl rfl rfl rfl ?_
      refine lw_val rfl (run_pickF (v := .bool _) rfl rfl rfl) ?_
      refine lw_val rfl (run_move (v := .bool _) rfl) ?_
      refine lw_off rfl rfl rfl rfl ?_
      refine lw_off rfl rfl rfl rfl ?_
      refine lw_off rfl rfl rfl rfl ?_
      refine lw_off rfl rfl rfl rfl ?_
      refine lw_off rfl rfl rfl rfl ?_
      refine lw_val rfl (run_pickF (v := .bool _) rfl rfl rfl) ?_
      refine lw_val rfl (run_move (v := .bool _) rfl) ?_
      refine lw_off rfl rfl rfl rfl ?_
      refine lw_off rfl rfl rfl rfl ?_
      refine lw_off rfl rfl rfl rfl ?_
      refine lw_off rfl rfl rfl rfl ?_
      refine lw_off rfl rfl rfl rfl ?_
      refine lw_val rfl (run_pickF (v := .bool _) rfl rfl rfl) ?_
      refine lw_val rfl (run_assign (v := .bool _) rfl) ?_
      refine lw_nil ?_
      refine cw_ret ?_
      refine res1 (v := .bool _) rfl rfl ?_
      exact ⟨_, rfl, ret_b (decide_eq_false (fun q => g15 (by rw [q]))).symm, hs.tail.tail⟩
  · intro h9
    have g9 := of_decide_eq_false h9
    refine lw_off rfl rfl rfl h9 ?_
    refine lw_off rfl rfl rfl h9 ?_
    refine lw_off rfl rfl rfl h9 ?_
    refine lw_off rfl rfl rfl h9 ?_
    refine lw_off rfl rfl rfl h9 ?_
    refine lw_val rfl (run_pickF (v := .bool _) rfl h9 rfl) ?_
    refine lw_val rfl (run_move (v := .bool _) rfl) ?_
    refine lw_off rfl rfl rfl rfl ?_
    refine lw_off rfl rfl rfl rfl ?_
    refine lw_off rfl rfl rfl rfl ?_
    refine lw_off rfl rfl rfl rfl ?_
    refine lw_off rfl rfl rfl rfl ?_
    refine lw_val rfl (run_pickF (v := .bool _) rfl rfl rfl) ?_
    refine lw_val rfl (run_move (v := .bool _) rfl) ?_
    refine lw_off rfl rfl rfl rfl ?_
    refine lw_off rfl rfl rfl rfl ?_
    refine lw_off rfl rfl rfl rfl ?_
    refine lw_off rfl rfl rfl rfl ?_
    refine lw_off rfl rfl rfl rfl ?_
    refine lw_val rfl (run_pickF (v := .bool _) rfl rfl rfl) ?_
    refine lw_val rfl (run_move (v := .bool _) rfl) ?_
    refine lw_off rfl rfl rfl rfl ?_
    refine lw_off rfl rfl rfl rfl ?_
    refine lw_off rfl rfl rfl rfl ?_
    refine lw_off rfl rfl rfl rfl ?_
    refine lw_off rfl rfl rfl rfl ?_
    refine lw_val rfl (run_pickF (v := .bool _) rfl rfl rfl) ?_
    refine lw_val rfl (run_move (v := .bool _) rfl) ?_
    refine lw_off rfl rfl rfl rfl ?_
    refine lw_off rfl rfl rfl rfl ?_
    refine lw_off rfl rfl rfl rfl ?_
    refine lw_off rfl rfl rfl rfl ?_
    refine lw_off rfl rfl rfl rfl ?_
    refine lw_val rfl (run_pickF (v := .bool _) rfl rfl rfl) ?_
    refine lw_val rfl (run_assign (v := .bool _) rfl) ?_
    refine lw_nil ?_
    refine cw_ret ?_
    refine res1 (v := .bool _) rfl rfl ?_
    exact ⟨_, rfl, ret_b (decide_eq_false (fun q => g9 (by rw [q]))).symm, hs.tail.tail⟩
theorem cloneM_sl (hs : Mem g w L) {x : Mf} {e o : SA} (hx : MfR g L x e o) (h1 : x.eps.length ≤ 1000000) (h2 : x.obs.length ≤ 1000000) : Calls Tryz.prog 110 #[.agg (mfL x e o).toArray] w (Ret fun v w' => ∃ s1 s2 : SA, v = .agg (mfL x s1 s2).toArray ∧ Mem g w' (mfP x s1 s2 ++ L)) := by
  refine calls_cw Tryz.func110 rfl rfl ?_
  skip
  refine cw_seq ?_
  refine cw_region ?_
  refine lw_box (v := .agg _) hs rfl rfl ?_
  clear hs
  intro b1 w hs
  try simp only [List.set_cons_succ, List.set_cons_zero] at hs
  refine lw_alloc hs rfl ze36 ?_
  clear hs
  intro b2 w hs
  try simp only [List.set_cons_succ, List.set_cons_zero] at hs
  refine lw_nil ?_
  refine cw_seq ?_
  have hM := hs.drop 1
  generalize hM0 : List.eraseIdx _ 1 = M0 at hM
  refine cw_drawS mixes hM ?_
  intro w tr hK
  replace hs := tr _ hs
  clear tr
  refine aw_take 0 rfl (by kernel_rfl) (by kernel_rfl) (by kernel_rfl) rfl (fun w hs => run_fieldAddr (o' := 4) Tryz.underlying36 rfl sz33 rfl rfl rfl) hK ?_
  refine aw_take 3 rfl (by kernel_rfl) (by kernel_rfl) (by kernel_rfl) rfl (fun w hs => run_fieldAddr (o' := 5) Tryz.underlying36 rfl sz34 rfl rfl rfl) hK ?_
  refine aw_ready [1, 4] (by kernel_rfl) (by simp) ?_
  refine ⟨⟨_, rfl, ?_⟩, ⟨_, rfl, ?_⟩, trivial⟩
  · skip
    refine lw_val rfl (run_load Tryz.underlying33 rfl rfl (hs.cellAt 1 rfl rfl)) ?_
    clear hK
    have hK := (show Mem g w M0 from by rw [← hM0]; first | exact hs.drop 1 | exact hs.tail.drop 1 | exact hs.tail.tail.drop 1)
    refine lw_nil ⟨hK, ?_⟩
    refine aw_ready [2, 4] (by kernel_rfl) (by simp) ?_
    refine ⟨⟨_, rfl, ?_⟩, ⟨_, rfl, ?_⟩, trivial⟩
    · skip
      refine lw_call rfl en195 (clonePr_sl hs hx.eps.cons.cons rfl h1) ?_
      clear hs
      rintro _ w ⟨s1, rfl, hs⟩
      clear hK
      have hK := (show Mem g w M0 from by rw [← hM0]; first | exact hs.drop 1 | exact hs.tail.drop 1 | exact hs.tail.tail.drop 1)
      refine lw_nil ⟨hK, ?_⟩
      refine aw_ready [4] (by kernel_rfl) (by simp) ?_
      refine ⟨⟨_, rfl, ?_⟩, trivial⟩
      refine lw_val rfl (run_load Tryz.underlying34 rfl rfl (hs.cellAt 2 rfl rfl)) ?_
      clear hK
      have hK := (show Mem g w M0 from by rw [← hM0]; first | exact hs.drop 1 | exact hs.tail.drop 1 | exact hs.tail.tail.drop 1)
      refine lw_nil ⟨hK, ?_⟩
      refine aw_take 6 rfl (by kernel_rfl) (by kernel_rfl) (by kernel_rfl) rfl (fun w hs => run_fieldAddr (o' := 4) Tryz.underlying36 rfl sz33 rfl rfl rfl) hK ?_
      refine aw_ready [5] (by kernel_rfl) (by simp) ?_
      refine ⟨⟨_, rfl, ?_⟩, trivial⟩
      refine lw_call rfl en196 (cloneOb_sl hs hx.obs.cons.cons.cons rfl h2) ?_
      clear hs
      rintro _ w ⟨s2, rfl, hs⟩
      clear hK
      have hK := (show Mem g w M0 from by rw [← hM0]; first | exact hs.drop 1 | exact hs.tail.drop 1 | exact hs.tail.tail.drop 1)
      refine lw_nil ⟨hK, ?_⟩
      refine aw_ready [7] (by kernel_rfl) (by simp) ?_
      refine ⟨⟨_, rfl, ?_⟩, trivial⟩
      refine lw_store (v := .slice _ _ _) hs 3 rfl sz33 rfl rfl rfl rfl ?_
      clear hs
      intro w hs
      try simp only [List.set_cons_succ, List.set_cons_zero] at hs
      clear hK
      have hK := (show Mem g w M0 from by rw [← hM0]; first | exact hs.drop 1 | exact hs.tail.drop 1 | exact hs.tail.tail.drop 1)
      refine lw_nil ⟨hK, ?_⟩
      refine aw_take 8 rfl (by kernel_rfl) (by kernel_rfl) (by kernel_rfl) rfl (fun w hs => run_fieldAddr (o' := 5) Tryz.underlying36 rfl sz34 rfl rfl rfl) hK ?_
      refine aw_ready [9] (by kernel_rfl) (by simp) ?_
      refine ⟨⟨_, rfl, ?_⟩, trivial⟩
      refine lw_store (v := .slice _ _ _) hs 3 rfl sz34 rfl rfl rfl rfl ?_
      clear hs
      intro w hs
      try simp only [List.set_cons_succ, List.set_cons_zero] at hs
      clear hK
      have hK := (show Mem g w M0 from by rw [← hM0]; first | exact hs.drop 1 | exact hs.tail.drop 1 | exact hs.tail.tail.drop 1)
      refine lw_nil ⟨hK, ?_⟩
      refine aw_done (by kernel_rfl) ?_
      clear hK
      refine cw_seq ?_
      refine cw_region ?_
      refine lw_val rfl (run_loadRow hs 3 rfl Tryz.underlying36 sz36 rfl) ?_
      refine lw_storeRow hs 2 rfl rfl rfl sz36 rfl rfl ?_
      clear hs
      intro w hs
      try simp only [List.set_cons_succ, List.set_cons_zero] at hs
      refine lw_nil ?_
      refine cw_ret ?_
      refine resG [(.cell 2 36, .agg _)] rfl ⟨⟨_, rfl, res_row hs 2 rfl Tryz.underlying36 sz36⟩, trivial⟩ ?_
      exact ⟨_, rfl, s1, s2, rfl, hs.arr [1, 0] 4 (by decide)⟩
    · skip
      refine lw_val rfl (run_load Tryz.underlying34 rfl rfl (hs.cellAt 1 rfl rfl)) ?_
      clear hK
      have hK := (show Mem g w M0 from by rw [← hM0]; first | exact hs.drop 1 | exact hs.tail.drop 1 | exact hs.tail.tail.drop 1)
      refine lw_nil ⟨hK, ?_⟩
      refine aw_ready [2] (by kernel_rfl) (by simp) ?_
      refine ⟨⟨_, rfl, ?_⟩, trivial⟩
      refine lw_call rfl en195 (clonePr_sl hs hx.eps.cons.cons rfl h1) ?_
      clear hs
      rintro _ w ⟨s1, rfl, hs⟩
      clear hK
      have hK := (show Mem g w M0 from by rw [← hM0]; first | exact hs.drop 1 | exact hs.tail.drop 1 | exact hs.tail.tail.drop 1)
      refine lw_nil ⟨hK, ?_⟩
      refine aw_take 6 rfl (by kernel_rfl) (by kernel_rfl) (by kernel_rfl) rfl (fun w hs => run_fieldAddr (o' := 4) Tryz.underlying36 rfl sz33 rfl rfl rfl) hK ?_
      refine aw_ready [5] (by kernel_rfl) (by simp) ?_
      refine ⟨⟨_, rfl, ?_⟩, trivial⟩
      refine lw_call rfl en196 (cloneOb_sl hs hx.obs.cons.cons.cons rfl h2) ?_
      clear hs
      rintro _ w ⟨s2, rfl, hs⟩
      clear hK
      have hK := (show Mem g w M0 from by rw [← hM0]; first | exact hs.drop 1 | exact hs.tail.drop 1 | exact hs.tail.tail.drop 1)
      refine lw_nil ⟨hK, ?_⟩
      refine aw_ready [7] (by kernel_rfl) (by simp) ?_
      refine ⟨⟨_, rfl, ?_⟩, trivial⟩
      refine lw_store (v := .slice _ _ _) hs 3 rfl sz33 rfl rfl rfl rfl ?_
      clear hs
      intro w hs
      try simp only [List.set_cons_succ, List.set_cons_zero] at hs
      clear hK
      have hK := (show Mem g w M0 from by rw [← hM0]; first | exact hs.drop 1 | exact hs.tail.drop 1 | exact hs.tail.tail.drop 1)
      refine lw_nil ⟨hK, ?_⟩
      refine aw_take 8 rfl (by kernel_rfl) (by kernel_rfl) (by kernel_rfl) rfl (fun w hs => run_fieldAddr (o' := 5) Tryz.underlying36 rfl sz34 rfl rfl rfl) hK ?_
      refine aw_ready [9] (by kernel_rfl) (by simp) ?_
      refine ⟨⟨_, rfl, ?_⟩, trivial⟩
      refine lw_store (v := .slice _ _ _) hs 3 rfl sz34 rfl rfl rfl rfl ?_
      clear hs
      intro w hs
      try simp only [List.set_cons_succ, List.set_cons_zero] at hs
      clear hK
      have hK := (show Mem g w M0 from by rw [← hM0]; first | exact hs.drop 1 | exact hs.tail.drop 1 | exact hs.tail.tail.drop 1)
      refine lw_nil ⟨hK, ?_⟩
      refine aw_done (by kernel_rfl) ?_
      clear hK
      refine cw_seq ?_
      refine cw_region ?_
      refine lw_val rfl (run_loadRow hs 3 rfl Tryz.underlying36 sz36 rfl) ?_
      refine lw_storeRow hs 2 rfl rfl rfl sz36 rfl rfl ?_
      clear hs
      intro w hs
      try simp only [List.set_cons_succ, List.set_cons_zero] at hs
      refine lw_nil ?_
      refine cw_ret ?_
      refine resG [(.cell 2 36, .agg _)] rfl ⟨⟨_, rfl, res_row hs 2 rfl Tryz.underlying36 sz36⟩, trivial⟩ ?_
      exact ⟨_, rfl, s1, s2, rfl, hs.arr [1, 0] 4 (by decide)⟩
  · skip
    refine lw_val rfl (run_load Tryz.underlying34 rfl rfl (hs.cellAt 1 rfl rfl)) ?_
    clear hK
    have hK := (show Mem g w M0 from by rw [← hM0]; first | exact hs.drop 1 | exact hs.tail.drop 1 | exact hs.tail.tail.drop 1)
    refine lw_nil ⟨hK, ?_⟩
    refine aw_ready [1] (by kernel_rfl) (by simp) ?_
    refine ⟨⟨_, rfl, ?_⟩, trivial⟩
    refine lw_val rfl (run_load Tryz.underlying33 rfl rfl (hs.cellAt 1 rfl rfl)) ?_
    clear hK
    have hK := (show Mem g w M0 from by rw [← hM0]; first | exact hs.drop 1 | exact hs.tail.drop 1 | exact hs.tail.tail.drop 1)
    refine lw_nil ⟨hK, ?_⟩
    refine aw_ready [2] (by kernel_rfl) (by simp) ?_
    refine ⟨⟨_, rfl, ?_⟩, trivial⟩
    refine lw_call rfl en195 (clonePr_sl hs hx.eps.cons.cons rfl h1) ?_
    clear hs
    rintro _ w ⟨s1, rfl, hs⟩
    clear hK
    have hK := (show Mem g w M0 from by rw [← hM0]; first | exact hs.drop 1 | exact hs.tail.drop 1 | exact hs.tail.tail.drop 1)
    refine lw_nil ⟨hK, ?_⟩
    refine aw_take 6 rfl (by kernel_rfl) (by kernel_rfl) (by kernel_rfl) rfl (fun w hs => run_fieldAddr (o' := 4) Tryz.underlying36 rfl sz33 rfl rfl rfl) hK ?_
    refine aw_ready [5] (by kernel_rfl) (by simp) ?_
    refine ⟨⟨_, rfl, ?_⟩, trivial⟩
    refine lw_call rfl en196 (cloneOb_sl hs hx.obs.cons.cons.cons rfl h2) ?_
    clear hs
    rintro _ w ⟨s2, rfl, hs⟩
    clear hK
    have hK := (show Mem g w M0 from by rw [← hM0]; first | exact hs.drop 1 | exact hs.tail.drop 1 | exact hs.tail.tail.drop 1)
    refine lw_nil ⟨hK, ?_⟩
    refine aw_ready [7] (by kernel_rfl) (by simp) ?_
    refine ⟨⟨_, rfl, ?_⟩, trivial⟩
    refine lw_store (v := .slice _ _ _) hs 3 rfl sz33 rfl rfl rfl rfl ?_
    clear hs
    intro w hs
    try simp only [List.set_cons_succ, List.set_cons_zero] at hs
    clear hK
    have hK := (show Mem g w M0 from by rw [← hM0]; first | exact hs.drop 1 | exact hs.tail.drop 1 | exact hs.tail.tail.drop 1)
    refine lw_nil ⟨hK, ?_⟩
    refine aw_take 8 rfl (by kernel_rfl) (by kernel_rfl) (by kernel_rfl) rfl (fun w hs => run_fieldAddr (o' := 5) Tryz.underlying36 rfl sz34 rfl rfl rfl) hK ?_
    refine aw_ready [9] (by kernel_rfl) (by simp) ?_
    refine ⟨⟨_, rfl, ?_⟩, trivial⟩
    refine lw_store (v := .slice _ _ _) hs 3 rfl sz34 rfl rfl rfl rfl ?_
    clear hs
    intro w hs
    try simp only [List.set_cons_succ, List.set_cons_zero] at hs
    clear hK
    have hK := (show Mem g w M0 from by rw [← hM0]; first | exact hs.drop 1 | exact hs.tail.drop 1 | exact hs.tail.tail.drop 1)
    refine lw_nil ⟨hK, ?_⟩
    refine aw_done (by kernel_rfl) ?_
    clear hK
    refine cw_seq ?_
    refine cw_region ?_
    refine lw_val rfl (run_loadRow hs 3 rfl Tryz.underlying36 sz36 rfl) ?_
    refine lw_storeRow hs 2 rfl rfl rfl sz36 rfl rfl ?_
    clear hs
    intro w hs
    try simp only [List.set_cons_succ, List.set_cons_zero] at hs
    refine lw_nil ?_
    refine cw_ret ?_
    refine resG [(.cell 2 36, .agg _)] rfl ⟨⟨_, rfl, res_row hs 2 rfl Tryz.underlying36 sz36⟩, trivial⟩ ?_
    exact ⟨_, rfl, s1, s2, rfl, hs.arr [1, 0] 4 (by decide)⟩
theorem nextE_sl (hs : Mem g w L) (s k : Int) : Calls Tryz.prog 108 #[.int .i64 s, .int .i64 k] w (Ret fun v w' => v = .bool (nextB s k) ∧ Mem g w' L) := by
  refine calls_cw Tryz.func108 rfl rfl ?_
  skip
  refine cw_seq ?_
  refine cw_region ?_
  refine lw_val rfl (run_assign (v := .bool _) rfl) ?_
  refine lw_nil ?_
  refine cw_seq ?_
  refine cw_seq ?_
  refine cw_region ?_
  refine lw_val rfl (run_move (v := .int .i64 _) rfl) ?_
  refine lw_nil ?_
  refine cw_block ?_
  refine cw_seq ?_
  refine cw_region ?_
  refine lw_val rfl (run_eqi rfl rfl) ?_
  refine lw_val rfl (run_assign (v := .bool _) rfl) ?_
  refine lw_nil ?_
  refine cw_if rfl ?_ ?_
  · intro h7
    have g7 := of_decide_eq_true h7
    refine cw_seq ?_
    refine cw_region ?_
    refine lw_val rfl (run_move (v := .int .i64 _) rfl) ?_
    refine lw_val rfl (run_eqi rfl rfl) ?_
    refine lw_val rfl (run_assign (v := .bool _) rfl) ?_
    refine lw_nil ?_
    refine cw_ret ?_
    refine res1 (v := .bool _) rfl rfl ?_
    exact ⟨_, rfl, ret_b (by rw [Bool.eq_iff_iff]; simp [nextB, *]), hs⟩
  · intro h7
    have g7 := of_decide_eq_false h7
    refine cw_seq ?_
    refine cw_region ?_
    refine lw_val rfl (run_eqi rfl rfl) ?_
    refine lw_val rfl (run_assign (v := .bool _) rfl) ?_
    refine lw_nil ?_
    refine cw_if rfl ?_ ?_
    · intro h11
      have g11 := of_decide_eq_true h11
      refine cw_seq ?_
      refine cw_region ?_
      refine lw_val rfl (run_move (v := .int .i64 _) rfl) ?_
      refine lw_val rfl (run_eqi rfl rfl) ?_
      refine lw_val rfl (run_assign (v := .bool _) rfl) ?_
      refine lw_nil ?_
      refine cw_ret ?_
      refine res1 (v := .bool _) rfl rfl ?_
      exact ⟨_, rfl, ret_b (by rw [Bool.eq_iff_iff]; simp [nextB, *]), hs⟩
    · intro h11
      have g11 := of_decide_eq_false h11
      refine cw_seq ?_
      refine cw_region ?_
      refine lw_val rfl (run_eqi rfl rfl) ?_
      refine lw_val rfl (run_assign (v := .bool _) rfl) ?_
      refine lw_nil ?_
      refine cw_if rfl ?_ ?_
      · intro h15
        have g15 := of_decide_eq_true h15
        refine cw_seq ?_
        refine cw_region ?_
        refine lw_val rfl (run_move (v := .int .i64 _) rfl) ?_
        refine lw_val rfl (run_eqi rfl rfl) ?_
        refine lw_val rfl (run_move (v := .bool _) rfl) ?_
        refine lw_split (t := _) (d := 18) rfl ?_ ?_
        · intro h17
          have g17 := of_decide_eq_true h17
          refine lw_off rfl rfl rfl h17 ?_
          refine lw_off rfl rfl rfl h17 ?_
          refine lw_val rfl (run_pickT (v := .bool _) rfl h17 rfl) ?_
          refine lw_val rfl (run_assign (v := .bool _) rfl) ?_
          refine lw_nil ?_
          refine cw_ret ?_
          refine res1 (v := .bool _) rfl rfl ?_
          exact ⟨_, rfl, ret_b (by rw [Bool.eq_iff_iff]; simp [nextB, *]), hs⟩
        · intro h17
          have g17 := of_decide_eq_false h17
          refine lw_on rfl rfl h17 ?_
          refine lw_val rfl (run_move (v := .int .i64 _) rfl) ?_
          refine lw_on rfl rfl h17 ?_
          refine lw_val rfl (run_eqi rfl rfl) ?_
          refine lw_val rfl (run_pickF (v := .bool _) rfl h17 rfl) ?_
          refine lw_val rfl (run_assign (v := .bool _) rfl) ?_
          refine lw_nil ?_
          refine cw_ret ?_
          refine res1 (v := .bool _) rfl rfl ?_
          exact ⟨_, rfl, ret_b (by rw [Bool.eq_iff_iff]; simp [nextB, *]), hs⟩
      · intro h15
        have g15 := of_decide_eq_false h15
        refine cw_seq ?_
        refine cw_region ?_
        refine lw_val rfl (run_eqi rfl rfl) ?_
        refine lw_val rfl (run_assign (v := .bool _) rfl) ?_
        refine lw_nil ?_
        refine cw_if rfl ?_ ?_
        · intro h23
          have g23 := of_decide_eq_true h23
          refine cw_seq ?_
          refine cw_region ?_
          refine lw_val rfl (run_move (v := .int .i64 _) rfl) ?_
          refine lw_val rfl (run_eqi rfl rfl) ?_
          refine lw_val rfl (run_assign (v := .bool _) rfl) ?_
          refine lw_nil ?_
          refine cw_ret ?_
          refine res1 (v := .bool _) rfl rfl ?_
          exact ⟨_, rfl, ret_b (by rw [Bool.eq_iff_iff]; simp [nextB, *]), hs⟩
        · intro h23
          have g23 := of_decide_eq_false h23
          refine cw_skip ?_
          refine cw_seq ?_
          refine cw_region ?_
          refine lw_val rfl (run_assign (v := .bool _) rfl) ?_
          refine lw_nil ?_
          refine cw_ret ?_
          refine res1 (v := .bool _) rfl rfl ?_
          exact ⟨_, rfl, ret_b (by rw [Bool.eq_iff_iff]; simp [nextB, *]), hs⟩
theorem mnames_sl (hs : Mem g w L) {m : Mf} {e o : SA} (hx : MfR g L m e o) (h2 : m.obs.length ≤ 1000000) : Calls Tryz.prog 106 #[.agg (mfL m e o).toArray] w (Ret fun v w' => ∃ s : SA, v = .slice s.1 m.names.length s.2 ∧ Mem g w' (own (.slice s.1 m.names.length s.2) (textsL m.names) :: L)) := by
  obtain ⟨oa, oc⟩ := o
  have hnl : m.names.length = m.obs.length := by simp [Mf.names]
  refine calls_cw Tryz.func106 rfl rfl ?_
  skip
  refine cw_seq ?_
  refine cw_region ?_
  refine lw_box (v := .agg _) hs rfl rfl ?_
  clear hs
  intro b1 w hs
  try simp only [List.set_cons_succ, List.set_cons_zero] at hs
  refine lw_val rfl (run_assign (v := .slice _ _ _) rfl) ?_
  refine lw_nil ?_
  refine cw_seq ?_
  refine cw_region ?_
  refine lw_val rfl (run_assign (v := .slice _ _ _) rfl) ?_
  refine lw_nil ?_
  refine cw_seq ?_
  refine cw_seq ?_
  refine cw_region ?_
  refine lw_val rfl (run_fieldAddr (o' := 5) Tryz.underlying36 rfl sz34 rfl rfl rfl) ?_
  refine lw_val rfl (run_load Tryz.underlying34 rfl rfl (hs.cellAt 0 rfl rfl)) ?_
  refine lw_val rfl (run_lenS Tryz.underlying34 rfl) ?_
  refine lw_val rfl (run_move (v := .int .i64 _) rfl) ?_
  refine lw_nil ?_
  replace hs := (hs.addE (own_nil _))
  refine cw_block ?_
  refine cw_loop (X := Nat × SA) [3, 5, 9, 10, 11, 12, 13, 14, 15, 16, 17, 18] (fun q => [(3, .slice q.2.1 q.1 q.2.2), (9, .int .i64 (q.1 : Nat))]) (fun q w => q.1 ≤ m.obs.length ∧ Mem g w (own (.slice q.2.1 q.1 q.2.2) (textsL (m.names.take q.1)) :: cells b1 (mfL m e (oa, oc)) 36 :: L)) (fun q => m.obs.length - q.1) ((0, (none, 0))) ?_ ?_ ?_
  · exact ⟨rfl, rfl, trivial⟩
  · exact ⟨Nat.zero_le _, hs⟩
  clear hs
  rintro x ξ w hI
  obtain ⟨k, s⟩ := x
  obtain ⟨hk, hs⟩ := hI
  simp only at hk hs
  show cw _ _ _ _ _ _ (updL (mix _ ξ _) [(3, .slice s.1 k s.2), (9, .int .i64 (k : Nat))]) w
  refine cw_seq ?_
  refine cw_region ?_
  refine lw_val rfl (run_lss rfl rfl) ?_
  refine lw_nil ?_
  refine cw_seq ?_
  refine cw_if rfl ?_ ?_
  · intro h10
    have g10 := of_decide_eq_true h10
    obtain ⟨y, hy⟩ : ∃ y, m.obs[k]? = some y := ⟨_, List.getElem?_eq_getElem (by omega)⟩
    obtain ⟨b9, o9, rfl⟩ := hx.obs.cons.cons.at hs (by rw [len_obL]; omega)
    have hny : m.names[k]? = some y.1 := by simp [Mf.names, hy]
    refine cw_skip ?_
    refine cw_seq ?_
    refine cw_block ?_
    refine cw_seq ?_
    refine cw_region ?_
    refine lw_val rfl (run_indexAddrK Tryz.underlying34 sz41 rfl rfl rfl (by omega) rfl) ?_
    refine lw_val rfl (run_loadK (cs := obL y) Tryz.underlying41 sz41 rfl (fun j v hj => hx.obs.cons.cons.cell hs (obL_at hy) hj)) ?_
    refine lw_alloc hs rfl ze41 ?_
    clear hs
    intro b5 w hs
    try simp only [List.set_cons_succ, List.set_cons_zero] at hs
    refine lw_storeRow hs 0 rfl rfl rfl sz41 rfl rfl ?_
    clear hs
    intro w hs
    try simp only [List.set_cons_succ, List.set_cons_zero] at hs
    refine lw_nil ?_
    refine cw_region ?_
    refine lw_val rfl (run_move (v := .slice _ _ _) rfl) ?_
    refine lw_val rfl (run_fieldAddr (o' := 0) Tryz.underlying41 rfl sz9 rfl rfl rfl) ?_
    refine lw_val rfl (run_load Tryz.underlying9 rfl rfl (hs.cellAt 0 rfl rfl)) ?_
    refine lw_buildSlice hs rfl ([.string y.1]) Tryz.underlying48 zs9 rfl (by simp [Value.cells]) rfl rfl rfl ?_
    clear hs
    intro b16 w hs
    try simp only [List.set_cons_succ, List.set_cons_zero] at hs
    refine lw_append hs rfl 2 rfl Tryz.underlying48 in9 rfl rfl rfl (src_of_seq (P := Tryz.prog) Tryz.underlying48 ((Rd.cells (n := 1) (cs := [.string y.1]) 0 rfl rfl).seq hs) (fun u hu => by simp at hu; subst hu; rfl)) (by simp [textsL]; omega) (by simp [textsL]; omega) ?_
    clear hs
    intro a17 c17 w hs
    simp only [List.set_cons_succ, List.set_cons_zero] at hs
    refine lw_val rfl (run_assign (v := .slice _ _ _) rfl) ?_
    refine lw_nil ?_
    refine cw_region ?_
    refine lw_val rfl (run_add64 rfl rfl rfl (inI (by omega) (by omega))) ?_
    refine lw_val rfl (run_move (v := .int .i64 _) rfl) ?_
    refine lw_nil ?_
    have hl : (textsL (m.names.take k)).length = k := by rw [textsL_len, List.length_take]; omega
    exact ⟨(k + 1, (a17, c17)), by simp only; omega, ⟨by simp only; omega, by simp only [List.take_add_one, hny, Option.toList, textsL_app]; have h3 := hs.arr [2, 3] 4 (by decide); rw [hl] at h3; exact h3⟩, ⟨by rw [hl]; rfl, rfl, trivial⟩, by repeat (first | exact Out.mix _ _ _ | refine Out.updo rfl ?_ | refine Out.upd rfl ?_ | refine Out.mixIn rfl ?_)⟩
  · intro h10
    have g10 := of_decide_eq_false h10
    refine cw_exit rfl ?_
    refine cw_seq ?_
    refine cw_region ?_
    refine lw_val rfl (run_move (v := .slice _ _ _) rfl) ?_
    refine lw_val rfl (run_assign (v := .slice _ _ _) rfl) ?_
    refine lw_nil ?_
    refine cw_ret ?_
    refine res1 (v := .slice _ _ _) rfl rfl ?_
    have e : k = m.names.length := by omega
    subst e
    rw [List.take_length] at hs
    exact ⟨_, rfl, s, rfl, hs.arr [0] 2 (by decide)⟩
end Go.Proofs.YtkogkokmcmallaaGreatDoor
