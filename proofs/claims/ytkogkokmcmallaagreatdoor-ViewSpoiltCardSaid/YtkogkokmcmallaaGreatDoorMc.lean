/- Manifests: what is amiss with one. -/
import Derived.Test.YtkogkokmcmallaaGreatDoorMb
namespace Go.Proofs.YtkogkokmcmallaaGreatDoor
set_option linter.all false
open Go.RowKit
attribute [local irreducible] errV
variable {g w : World} {L M : List HP} {ad : Nat → Addr} {p : Nat}

def viewCodes : List Nat := [103, 104, 105, 106, 112, 113]
abbrev ErrV (ad : Nat → Addr) (g : World) : Prop := Errs viewCodes ad g.heap.size g
theorem risAt_eq {l : List Pr} {i : Nat} {a b : Pr} (ha : l[i - 1]? = some a) (hb : l[i]? = some b) : risAt l i = (decide (a.1 < b.1) && decide (a.2 < b.2)) := by
  simp only [risAt, List.getD_eq_getElem?_getD, ha, hb, Option.getD_some]
theorem epNew_sl (hE : ErrV ad g) (hs : Mem g w L) {a : Option Addr} {n c : Nat} {l : List Pr} (hr : RdK g L 2 (.slice a n c) (l.map prL)) (hn : n = l.length) : Calls Tryz.prog 191 #[.slice a n c] w (Ret fun v w' => ∃ q, v = .tuple #[.pointer q, errV ad (epF l)] ∧ Mem g w' L) := by
  subst hn
  refine calls_cw Tryz.func191 rfl rfl ?_
  skip
  refine cw_seq ?_
  refine cw_region ?_
  refine lw_val rfl (run_assign (v := .pointer none) rfl) ?_
  refine lw_val rfl (run_assign (v := .nilIface) rfl) ?_
  refine lw_nil ?_
  refine cw_seq ?_
  refine cw_seq ?_
  refine cw_region ?_
  refine lw_val rfl (run_move (v := .slice _ _ _) rfl) ?_
  refine lw_val rfl (run_lenS Tryz.underlying33 rfl) ?_
  refine lw_val rfl (run_gtr rfl rfl) ?_
  refine lw_nil ?_
  refine cw_if rfl ?_ ?_
  · intro h7
    have g7 := of_decide_eq_true h7
    refine cw_seq ?_
    refine cw_drawS mixes hs ?_
    intro w tr hK
    replace hs := tr _ hs
    clear tr
    refine aw_take 0 rfl (by kernel_rfl) (by kernel_rfl) (by kernel_rfl) rfl (fun w hs => run_load Tryz.underlying30 rfl rfl (hE.cellW hs 104 (by decide) rfl)) hK ?_
    refine aw_take 1 rfl (by kernel_rfl) (by kernel_rfl) (by kernel_rfl) rfl (fun w hs => run_assign (v := .pointer none) rfl) hK ?_
    refine aw_take 2 rfl (by kernel_rfl) (by kernel_rfl) (by kernel_rfl) rfl (fun w hs => run_assign (v := errV ad _) rfl) hK ?_
    refine aw_done (by kernel_rfl) ?_
    clear hK
    refine cw_ret ?_
    refine res2 (v := .pointer none) (v2 := errV ad _) rfl rfl rfl ?_
    exact ⟨_, rfl, none, by rw [epF, if_pos (by omega)], hs⟩
  · intro h7
    have g7 := of_decide_eq_false h7
    refine cw_skip ?_
    refine cw_seq ?_
    refine cw_seq ?_
    refine cw_region ?_
    refine lw_val rfl (run_move (v := .slice _ _ _) rfl) ?_
    refine lw_call rfl en233 (conP_sl hs hr rfl (by omega)) ?_
    clear hs
    rintro _ w ⟨rfl, hs⟩
    refine lw_nil ?_
    refine cw_if rfl ?_ ?_
    · intro h10
      refine cw_seq ?_
      refine cw_drawS mixes hs ?_
      intro w tr hK
      replace hs := tr _ hs
      clear tr
      refine aw_take 0 rfl (by kernel_rfl) (by kernel_rfl) (by kernel_rfl) rfl (fun w hs => run_load Tryz.underlying30 rfl rfl (hE.cellW hs 105 (by decide) rfl)) hK ?_
      refine aw_take 1 rfl (by kernel_rfl) (by kernel_rfl) (by kernel_rfl) rfl (fun w hs => run_assign (v := .pointer none) rfl) hK ?_
      refine aw_take 2 rfl (by kernel_rfl) (by kernel_rfl) (by kernel_rfl) rfl (fun w hs => run_assign (v := errV ad _) rfl) hK ?_
      refine aw_done (by kernel_rfl) ?_
      clear hK
      refine cw_ret ?_
      refine res2 (v := .pointer none) (v2 := errV ad _) rfl rfl rfl ?_
      exact ⟨_, rfl, none, by rw [epF, if_neg (by omega), if_pos (not_b h10)], hs⟩
    · intro h10
      refine cw_skip ?_
      refine cw_seq ?_
      refine cw_seq ?_
      refine cw_region ?_
      refine lw_val rfl (run_assign (v := .int .i64 _) rfl) ?_
      refine lw_nil ?_
      refine cw_block ?_
      refine cw_loop (X := Nat) [2, 3, 4, 12, 13, 14, 15, 16, 17, 18, 19, 20, 21, 22, 23, 24, 25, 26, 27, 28, 29, 30, 31, 32, 33, 34, 35, 36, 37, 38, 39, 40, 41, 42, 43, 44] (fun k => [(4, .int .i64 (k : Nat))]) (fun k w => 1 ≤ k ∧ (∀ i, 1 ≤ i → i < k → i < l.length → risAt l i = true) ∧ Mem g w L) (fun k => l.length - k) (1) ?_ ?_ ?_
      · exact ⟨rfl, trivial⟩
      · exact ⟨Nat.le_refl _, fun i h1 h2 => by omega, hs⟩
      clear hs
      rintro x ξ w hI
      obtain ⟨hk, hq, hs⟩ := hI
      refine cw_seq ?_
      refine cw_seq ?_
      refine cw_region ?_
      refine lw_val rfl (run_move (v := .int .i64 _) rfl) ?_
      refine lw_val rfl (run_move (v := .slice _ _ _) rfl) ?_
      refine lw_val rfl (run_lenS Tryz.underlying33 rfl) ?_
      refine lw_val rfl (run_lss rfl rfl) ?_
      refine lw_nil ?_
      refine cw_if rfl ?_ ?_
      · intro h15
        have g15 := of_decide_eq_true h15
        obtain ⟨y, hy⟩ : ∃ y, l[x]? = some y := ⟨_, List.getElem?_eq_getElem (by omega)⟩
        obtain ⟨y0, hy0⟩ : ∃ y, l[x - 1]? = some y := ⟨_, List.getElem?_eq_getElem (by omega)⟩
        obtain ⟨b1, o1, rfl⟩ := hr.at hs (by rw [len_prL]; omega)
        have hra := risAt_eq hy0 hy
        refine cw_skip ?_
        refine cw_seq ?_
        refine cw_block ?_
        refine cw_seq ?_
        refine cw_drawS mixes hs ?_
        intro w tr hK
        replace hs := tr _ hs
        clear tr
        refine aw_take 0 rfl (by kernel_rfl) (by kernel_rfl) (by kernel_rfl) rfl (fun w hs => run_move (v := .slice _ _ _) rfl) hK ?_
        refine aw_take 1 rfl (by kernel_rfl) (by kernel_rfl) (by kernel_rfl) rfl (fun w hs => run_move (v := .int .i64 _) rfl) hK ?_
        refine aw_take 2 rfl (by kernel_rfl) (by kernel_rfl) (by kernel_rfl) rfl (fun w hs => run_indexAddrK Tryz.underlying33 sz141 rfl rfl rfl (by omega) rfl) hK ?_
        refine aw_take 3 rfl (by kernel_rfl) (by kernel_rfl) (by kernel_rfl) rfl (fun w hs => run_fieldAddr Tryz.underlying141 rfl sz3 rfl rfl rfl) hK ?_
        refine aw_take 4 rfl (by kernel_rfl) (by kernel_rfl) (by kernel_rfl) rfl (fun w hs => run_load Tryz.underlying3 rfl rfl (hr.cell hs (prL_at hy) (j := 0) rfl)) hK ?_
        refine aw_take 5 rfl (by kernel_rfl) (by kernel_rfl) (by kernel_rfl) rfl (fun w hs => run_move (v := .slice _ _ _) rfl) hK ?_
        refine aw_take 6 rfl (by kernel_rfl) (by kernel_rfl) (by kernel_rfl) rfl (fun w hs => run_move (v := .int .i64 _) rfl) hK ?_
        refine aw_take 7 rfl (by kernel_rfl) (by kernel_rfl) (by kernel_rfl) rfl (fun w hs => run_sub64 rfl rfl (c := ((x - 1 : Nat) : Int)) (by omega) (inI (by omega) (by omega))) hK ?_
        refine aw_take 8 rfl (by kernel_rfl) (by kernel_rfl) (by kernel_rfl) rfl (fun w hs => run_indexAddrK Tryz.underlying33 sz141 rfl rfl rfl (by omega) rfl) hK ?_
        refine aw_take 9 rfl (by kernel_rfl) (by kernel_rfl) (by kernel_rfl) rfl (fun w hs => run_fieldAddr Tryz.underlying141 rfl sz3 rfl rfl rfl) hK ?_
        refine aw_take 10 rfl (by kernel_rfl) (by kernel_rfl) (by kernel_rfl) rfl (fun w hs => run_load Tryz.underlying3 rfl rfl (hr.cell hs (prL_at hy0) (j := 0) rfl)) hK ?_
        refine aw_take 11 rfl (by kernel_rfl) (by kernel_rfl) (by kernel_rfl) rfl (fun w hs => run_leq rfl rfl) hK ?_
        refine aw_take 12 rfl (by kernel_rfl) (by kernel_rfl) (by kernel_rfl) rfl (fun w hs => run_move (v := .bool _) rfl) hK ?_
        refine aw_split (t := _) (d := 30) rfl ?_ ?_
        · intro h29
          have g29 := of_decide_eq_true h29
          refine aw_takeOff 13 rfl (by kernel_rfl) (by kernel_rfl) (by kernel_rfl) rfl rfl rfl h29 hK ?_
          refine aw_takeOff 14 rfl (by kernel_rfl) (by kernel_rfl) (by kernel_rfl) rfl rfl rfl h29 hK ?_
          refine aw_takeOff 15 rfl (by kernel_rfl) (by kernel_rfl) (by kernel_rfl) rfl rfl rfl h29 hK ?_
          refine aw_takeOff 16 rfl (by kernel_rfl) (by kernel_rfl) (by kernel_rfl) rfl rfl rfl h29 hK ?_
          refine aw_takeOff 17 rfl (by kernel_rfl) (by kernel_rfl) (by kernel_rfl) rfl rfl rfl h29 hK ?_
          refine aw_takeOff 18 rfl (by kernel_rfl) (by kernel_rfl) (by kernel_rfl) rfl rfl rfl h29 hK ?_
          refine aw_takeOff 19 rfl (by kernel_rfl) (by kernel_rfl) (by kernel_rfl) rfl rfl rfl h29 hK ?_
          refine aw_takeOff 20 rfl (by kernel_rfl) (by kernel_rfl) (by kernel_rfl) rfl rfl rfl h29 hK ?_
          refine aw_takeOff 21 rfl (by kernel_rfl) (by kernel_rfl) (by kernel_rfl) rfl rfl rfl h29 hK ?_
          refine aw_takeOff 22 rfl (by kernel_rfl) (by kernel_rfl) (by kernel_rfl) rfl rfl rfl h29 hK ?_
          refine aw_takeOff 23 rfl (by kernel_rfl) (by kernel_rfl) (by kernel_rfl) rfl rfl rfl h29 hK ?_
          refine aw_takeOff 24 rfl (by kernel_rfl) (by kernel_rfl) (by kernel_rfl) rfl rfl rfl h29 hK ?_
          refine aw_take 25 rfl (by kernel_rfl) (by kernel_rfl) (by kernel_rfl) rfl (fun w hs => run_pickT (v := .bool _) rfl h29 rfl) hK ?_
          refine aw_done (by kernel_rfl) ?_
          clear hK
          refine cw_ift rfl rfl ?_
          refine cw_seq ?_
          refine cw_drawS mixes hs ?_
          intro w tr hK
          replace hs := tr _ hs
          clear tr
          refine aw_take 0 rfl (by kernel_rfl) (by kernel_rfl) (by kernel_rfl) rfl (fun w hs => run_load Tryz.underlying30 rfl rfl (hE.cellW hs 103 (by decide) rfl)) hK ?_
          refine aw_take 1 rfl (by kernel_rfl) (by kernel_rfl) (by kernel_rfl) rfl (fun w hs => run_assign (v := .pointer none) rfl) hK ?_
          refine aw_take 2 rfl (by kernel_rfl) (by kernel_rfl) (by kernel_rfl) rfl (fun w hs => run_assign (v := errV ad _) rfl) hK ?_
          refine aw_done (by kernel_rfl) ?_
          clear hK
          refine cw_ret ?_
          refine res2 (v := .pointer none) (v2 := errV ad _) rfl rfl rfl ?_
          exact ⟨_, rfl, none, by rw [epF, if_neg (by omega), if_neg (by rw [not_c h10]; decide), if_pos (ris_no hk (by omega) (by rw [hra]; simp; omega))], hs⟩
        · intro h29
          have g29 := of_decide_eq_false h29
          refine aw_takeOn 13 rfl (by kernel_rfl) (by kernel_rfl) (by kernel_rfl) rfl rfl rfl h29 (fun w hs => run_move (v := .slice _ _ _) rfl) hK ?_
          refine aw_takeOn 14 rfl (by kernel_rfl) (by kernel_rfl) (by kernel_rfl) rfl rfl rfl h29 (fun w hs => run_move (v := .int .i64 _) rfl) hK ?_
          refine aw_takeOn 15 rfl (by kernel_rfl) (by kernel_rfl) (by kernel_rfl) rfl rfl rfl h29 (fun w hs => run_indexAddrK Tryz.underlying33 sz141 rfl rfl rfl (by omega) rfl) hK ?_
          refine aw_takeOn 16 rfl (by kernel_rfl) (by kernel_rfl) (by kernel_rfl) rfl rfl rfl h29 (fun w hs => run_fieldAddr Tryz.underlying141 rfl sz2 rfl rfl rfl) hK ?_
          refine aw_takeOn 17 rfl (by kernel_rfl) (by kernel_rfl) (by kernel_rfl) rfl rfl rfl h29 (fun w hs => run_load Tryz.underlying2 rfl rfl (hr.cell hs (prL_at hy) (j := 1) rfl)) hK ?_
          refine aw_takeOn 18 rfl (by kernel_rfl) (by kernel_rfl) (by kernel_rfl) rfl rfl rfl h29 (fun w hs => run_move (v := .slice _ _ _) rfl) hK ?_
          refine aw_takeOn 19 rfl (by kernel_rfl) (by kernel_rfl) (by kernel_rfl) rfl rfl rfl h29 (fun w hs => run_move (v := .int .i64 _) rfl) hK ?_
          refine aw_takeOn 20 rfl (by kernel_rfl) (by kernel_rfl) (by kernel_rfl) rfl rfl rfl h29 (fun w hs => run_sub64 rfl rfl (c := ((x - 1 : Nat) : Int)) (by omega) (inI (by omega) (by omega))) hK ?_
          refine aw_takeOn 21 rfl (by kernel_rfl) (by kernel_rfl) (by kernel_rfl) rfl rfl rfl h29 (fun w hs => run_indexAddrK Tryz.underlying33 sz141 rfl rfl rfl (by omega) rfl) hK ?_
          refine aw_takeOn 22 rfl (by kernel_rfl) (by kernel_rfl) (by kernel_rfl) rfl rfl rfl h29 (fun w hs => run_fieldAddr Tryz.underlying141 rfl sz2 rfl rfl rfl) hK ?_
          refine aw_takeOn 23 rfl (by kernel_rfl) (by kernel_rfl) (by kernel_rfl) rfl rfl rfl h29 (fun w hs => run_load Tryz.underlying2 rfl rfl (hr.cell hs (prL_at hy0) (j := 1) rfl)) hK ?_
          refine aw_takeOn 24 rfl (by kernel_rfl) (by kernel_rfl) (by kernel_rfl) rfl rfl rfl h29 (fun w hs => run_leq rfl rfl) hK ?_
          refine aw_take 25 rfl (by kernel_rfl) (by kernel_rfl) (by kernel_rfl) rfl (fun w hs => run_pickF (v := .bool _) rfl h29 rfl) hK ?_
          refine aw_done (by kernel_rfl) ?_
          clear hK
          refine cw_if rfl ?_ ?_
          · intro h42
            have g42 := of_decide_eq_true h42
            refine cw_seq ?_
            refine cw_drawS mixes hs ?_
            intro w tr hK
            replace hs := tr _ hs
            clear tr
            refine aw_take 0 rfl (by kernel_rfl) (by kernel_rfl) (by kernel_rfl) rfl (fun w hs => run_load Tryz.underlying30 rfl rfl (hE.cellW hs 103 (by decide) rfl)) hK ?_
            refine aw_take 1 rfl (by kernel_rfl) (by kernel_rfl) (by kernel_rfl) rfl (fun w hs => run_assign (v := .pointer none) rfl) hK ?_
            refine aw_take 2 rfl (by kernel_rfl) (by kernel_rfl) (by kernel_rfl) rfl (fun w hs => run_assign (v := errV ad _) rfl) hK ?_
            refine aw_done (by kernel_rfl) ?_
            clear hK
            refine cw_ret ?_
            refine res2 (v := .pointer none) (v2 := errV ad _) rfl rfl rfl ?_
            exact ⟨_, rfl, none, by rw [epF, if_neg (by omega), if_neg (by rw [not_c h10]; decide), if_pos (ris_no hk (by omega) (by rw [hra]; simp; omega))], hs⟩
          · intro h42
            have g42 := of_decide_eq_false h42
            refine cw_skip ?_
            refine cw_region ?_
            refine lw_val rfl (run_move (v := .int .i64 _) rfl) ?_
            refine lw_val rfl (run_add64 rfl rfl rfl (inI (by omega) (by omega))) ?_
            refine lw_val rfl (run_assign (v := .int .i64 _) rfl) ?_
            refine lw_nil ?_
            exact ⟨x + 1, by omega, ⟨by omega, (fun i h1 h2 h3 => by rcases Nat.lt_or_ge i x with h | h; exact hq i h1 h h3; obtain rfl : i = x := (by omega); rw [hra]; simp; omega), hs⟩, ⟨rfl, trivial⟩, by repeat (first | exact Out.mix _ _ _ | refine Out.updo rfl ?_ | refine Out.upd rfl ?_ | refine Out.mixIn rfl ?_)⟩
      · intro h15
        have g15 := of_decide_eq_false h15
        refine cw_exit rfl ?_
        refine cw_seq ?_
        refine cw_region ?_
        refine lw_val rfl (run_move (v := .slice _ _ _) rfl) ?_
        refine lw_call rfl en195 (clonePr_sl hs hr rfl (by omega)) ?_
        clear hs
        rintro _ w ⟨s, rfl, hs⟩
        refine lw_val rfl (run_buildF ([.slice s.1 l.length s.2]) Tryz.underlying271 ze271 pl271 rfl (by simp [Value.cells]) rfl rfl) ?_
        refine lw_box (v := .agg _) hs rfl rfl ?_
        clear hs
        intro b48 w hs
        try simp only [List.set_cons_succ, List.set_cons_zero] at hs
        refine lw_val rfl (run_assign (v := .pointer (some _)) rfl) ?_
        refine lw_val rfl (run_assign (v := .nilIface) rfl) ?_
        refine lw_nil ?_
        refine cw_ret ?_
        refine res2 (v := .pointer (some _)) (v2 := .nilIface) rfl rfl rfl ?_
        exact ⟨_, rfl, some ⟨b48, 0, none⟩, by rw [epF, if_neg (by omega), if_neg (by rw [not_c h10]; decide), if_neg (by rw [ris_iff.2 (fun i h1 h2 => hq i h1 (by omega) h2)]; decide), errV_zero], hs.tail.tail⟩
theorem dup_no {l : List Ob} {x : Nat} {y : Ob} (hy : l[x]? = some y) (h : ((l.take x).any fun u => decide (u.1 = y.1)) = true) : ¬ (l.map Prod.fst).Nodup := fun hn => by
  obtain ⟨u, hu, he⟩ := List.any_eq_true.1 h
  have he : u.1 = y.1 := of_decide_eq_true he
  obtain ⟨j, hj⟩ := List.mem_iff_getElem?.1 hu
  obtain ⟨hjl, _⟩ := List.getElem?_eq_some_iff.1 hj
  rw [List.length_take] at hjl
  rw [List.getElem?_take_of_lt (by omega)] at hj
  have h1 : (l.map Prod.fst)[j]? = some y.1 := by rw [List.getElem?_map, hj, Option.map_some, he]
  have h2 : (l.map Prod.fst)[x]? = some y.1 := by rw [List.getElem?_map, hy, Option.map_some]
  obtain ⟨g1, e1⟩ := List.getElem?_eq_some_iff.1 h1
  obtain ⟨g2, e2⟩ := List.getElem?_eq_some_iff.1 h2
  have := (List.getElem_inj hn).1 (e1.trans e2.symm)
  omega
theorem nodup_next {l : List Ob} {x : Nat} {y : Ob} (hy : l[x]? = some y) (hq : ((l.take x).map Prod.fst).Nodup) (h : ((l.take x).any fun u => decide (u.1 = y.1)) = false) : ((l.take (x + 1)).map Prod.fst).Nodup := by
  rw [List.take_add_one, hy, List.map_append, List.nodup_append]
  refine ⟨hq, by simp, fun a ha b hb e => ?_⟩
  simp only [Option.toList, List.map_cons, List.map_nil, List.mem_cons, List.not_mem_nil, or_false] at hb
  obtain ⟨u, hu, rfl⟩ := List.mem_map.1 ha
  have := List.any_eq_false.1 h u hu
  simp only [decide_eq_true_eq] at this
  exact this (e.trans hb)
theorem not_t' {b : Bool} (h : (!b) = true) : b = false := not_b h
theorem objects_sl (hE : ErrV ad g) (hs : Mem g w L) {a : Option Addr} {n c : Nat} {l : List Ob} (hr : RdK g L 3 (.slice a n c) (l.map obL)) (hn : n = l.length) (hlen : l.length ≤ 1000000) : Calls Tryz.prog 192 #[.slice a n c] w (Ret (RetF ad (obF l) g L)) := by
  subst hn
  refine calls_cw Tryz.func192 rfl rfl ?_
  skip
  refine cw_seq ?_
  refine cw_region ?_
  refine lw_val rfl (run_assign (v := .nilIface) rfl) ?_
  refine lw_nil ?_
  refine cw_seq ?_
  refine cw_seq ?_
  refine cw_region ?_
  refine lw_val rfl (run_move (v := .slice _ _ _) rfl) ?_
  refine lw_val rfl (run_lenS Tryz.underlying34 rfl) ?_
  refine lw_val rfl (run_lss rfl rfl) ?_
  refine lw_val rfl (run_move (v := .bool _) rfl) ?_
  refine lw_split (t := _) (d := 10) rfl ?_ ?_
  · intro h9
    have g9 := of_decide_eq_true h9
    refine lw_off rfl rfl rfl h9 ?_
    refine lw_off rfl rfl rfl h9 ?_
    refine lw_off rfl rfl rfl h9 ?_
    refine lw_val rfl (run_pickT (v := .bool _) rfl h9 rfl) ?_
    refine lw_nil ?_
    refine cw_ift rfl rfl ?_
    refine cw_seq ?_
    refine cw_region ?_
    refine lw_val rfl (run_load Tryz.underlying30 rfl rfl (hE.cellW hs 104 (by decide) rfl)) ?_
    refine lw_val rfl (run_assign (v := errV ad _) rfl) ?_
    refine lw_nil ?_
    refine cw_ret ?_
    refine res1 (v := errV ad _) rfl rfl ?_
    rw [obF, if_pos (by omega)]
    exact ⟨_, rfl, RetF.bare hs⟩
  · intro h9
    have g9 := of_decide_eq_false h9
    refine lw_on rfl rfl h9 ?_
    refine lw_val rfl (run_move (v := .slice _ _ _) rfl) ?_
    refine lw_on rfl rfl h9 ?_
    refine lw_val rfl (run_lenS Tryz.underlying34 rfl) ?_
    refine lw_on rfl rfl h9 ?_
    refine lw_val rfl (run_gtr rfl rfl) ?_
    refine lw_val rfl (run_pickF (v := .bool _) rfl h9 rfl) ?_
    refine lw_nil ?_
    refine cw_if rfl ?_ ?_
    · intro h13
      have g13 := of_decide_eq_true h13
      refine cw_seq ?_
      refine cw_region ?_
      refine lw_val rfl (run_load Tryz.underlying30 rfl rfl (hE.cellW hs 104 (by decide) rfl)) ?_
      refine lw_val rfl (run_assign (v := errV ad _) rfl) ?_
      refine lw_nil ?_
      refine cw_ret ?_
      refine res1 (v := errV ad _) rfl rfl ?_
      rw [obF, if_pos (by omega)]
      exact ⟨_, rfl, RetF.bare hs⟩
    · intro h13
      have g13 := of_decide_eq_false h13
      refine cw_skip ?_
      refine cw_seq ?_
      refine cw_seq ?_
      refine cw_region ?_
      refine lw_val rfl (run_move (v := .slice _ _ _) rfl) ?_
      refine lw_val rfl (run_lenS Tryz.underlying34 rfl) ?_
      refine lw_val rfl (run_move (v := .int .i64 _) rfl) ?_
      refine lw_nil ?_
      refine cw_block ?_
      refine cw_loop (X := Nat) [2, 3, 4, 18, 19, 20, 21, 22, 23, 24, 25, 26, 27, 28, 29, 30, 31, 32, 33, 34, 35, 36, 37, 38, 39, 40, 41, 42, 43, 44, 45] (fun k => [(18, .int .i64 (k : Nat))]) (fun k w => k ≤ l.length ∧ (∀ j, j < k → ∀ u, l[j]? = some u → obBad u = 0) ∧ Mem g w L) (fun k => l.length - k) (0) ?_ ?_ ?_
      · exact ⟨rfl, trivial⟩
      · exact ⟨Nat.zero_le _, fun j h => by omega, hs⟩
      clear hs
      rintro x ξ w hI
      obtain ⟨hk, hq, hs⟩ := hI
      refine cw_seq ?_
      refine cw_region ?_
      refine lw_val rfl (run_lss rfl rfl) ?_
      refine lw_nil ?_
      refine cw_seq ?_
      refine cw_if rfl ?_ ?_
      · intro h19
        have g19 := of_decide_eq_true h19
        obtain ⟨y, hy⟩ : ∃ y, l[x]? = some y := ⟨_, List.getElem?_eq_getElem (by omega)⟩
        obtain ⟨b1, o1, rfl⟩ := hr.at hs (by rw [len_obL]; omega)
        refine cw_skip ?_
        refine cw_seq ?_
        refine cw_block ?_
        refine cw_seq ?_
        refine cw_region ?_
        refine lw_val rfl (run_move (v := .int .i64 _) rfl) ?_
        refine lw_val rfl (run_indexAddrK Tryz.underlying34 sz41 rfl rfl rfl (by omega) rfl) ?_
        refine lw_val rfl (run_loadK (cs := obL y) Tryz.underlying41 sz41 rfl (fun j v hj => hr.cell hs (obL_at hy) hj)) ?_
        refine lw_alloc hs rfl ze41 ?_
        clear hs
        intro b4 w hs
        try simp only [List.set_cons_succ, List.set_cons_zero] at hs
        refine lw_val rfl (run_assign (v := .int .i64 _) rfl) ?_
        refine lw_storeRow hs 0 rfl rfl rfl sz41 rfl rfl ?_
        clear hs
        intro w hs
        try simp only [List.set_cons_succ, List.set_cons_zero] at hs
        refine lw_nil ?_
        refine cw_seq ?_
        refine cw_seq ?_
        refine cw_region ?_
        refine lw_val rfl (run_fieldAddr (o' := 0) Tryz.underlying41 rfl sz9 rfl rfl rfl) ?_
        refine lw_val rfl (run_load Tryz.underlying9 rfl rfl (hs.cellAt 0 rfl rfl)) ?_
        refine lw_call rfl en93 (valid_sl hs y.1) ?_
        clear hs
        rintro _ w ⟨rfl, hs⟩
        refine lw_val rfl (run_not rfl) ?_
        refine lw_nil ?_
        refine cw_if rfl ?_ ?_
        · intro h25
          replace h25 := not_b h25
          refine cw_seq ?_
          refine cw_region ?_
          refine lw_val rfl (run_move (v := .int .i64 _) rfl) ?_
          refine lw_val rfl (run_load Tryz.underlying30 rfl rfl (hE.cellW hs 106 (by decide) rfl)) ?_
          refine lw_val rfl (run_buildF [.int .i64 (x : Nat), errV ad 106] Tryz.underlying187 ze187 pl187 rfl (at_one _ _) rfl rfl) ?_
          refine lw_box (v := .agg _) hs rfl rfl ?_
          clear hs
          intro b30 w hs
          try simp only [List.set_cons_succ, List.set_cons_zero] at hs
          refine lw_val rfl (run_mkI Tryz.underlying185 rfl) ?_
          refine lw_val rfl (run_assign (v := .iface _ (.pointer (some _))) rfl) ?_
          refine lw_nil ?_
          refine cw_ret ?_
          refine res1 (v := .iface _ (.pointer (some _))) rfl rfl ?_
          have e : obBad y = 106 := by simp [obBad, h25]
          rw [obF_bad (by omega) hy (by rw [e]; decide) hq, e]
          exact ⟨_, rfl, b30, rfl, hs.arr [0] 2 (by decide)⟩
        · intro h25
          replace h25 := not_c h25
          refine cw_skip ?_
          refine cw_seq ?_
          refine cw_region ?_
          refine lw_val rfl (run_fieldAddr (o' := 1) Tryz.underlying41 rfl sz3 rfl rfl rfl) ?_
          refine lw_val rfl (run_load Tryz.underlying3 rfl rfl (hs.cellAt 0 rfl rfl)) ?_
          refine lw_val rfl (run_lss rfl rfl) ?_
          refine lw_val rfl (run_move (v := .bool _) rfl) ?_
          refine lw_split (t := _) (d := 35) rfl ?_ ?_
          · intro h34
            have g34 := of_decide_eq_true h34
            refine lw_off rfl rfl rfl h34 ?_
            refine lw_off rfl rfl rfl h34 ?_
            refine lw_off rfl rfl rfl h34 ?_
            refine lw_val rfl (run_pickT (v := .bool _) rfl h34 rfl) ?_
            refine lw_nil ?_
            refine cw_ift rfl rfl ?_
            refine cw_seq ?_
            refine cw_region ?_
            refine lw_val rfl (run_move (v := .int .i64 _) rfl) ?_
            refine lw_val rfl (run_load Tryz.underlying30 rfl rfl (hE.cellW hs 105 (by decide) rfl)) ?_
            refine lw_val rfl (run_buildF [.int .i64 (x : Nat), errV ad 105] Tryz.underlying187 ze187 pl187 rfl (at_one _ _) rfl rfl) ?_
            refine lw_box (v := .agg _) hs rfl rfl ?_
            clear hs
            intro b43 w hs
            try simp only [List.set_cons_succ, List.set_cons_zero] at hs
            refine lw_val rfl (run_mkI Tryz.underlying185 rfl) ?_
            refine lw_val rfl (run_assign (v := .iface _ (.pointer (some _))) rfl) ?_
            refine lw_nil ?_
            refine cw_ret ?_
            refine res1 (v := .iface _ (.pointer (some _))) rfl rfl ?_
            have e : obBad y = 105 := by simp [obBad, h25]; omega
            rw [obF_bad (by omega) hy (by rw [e]; decide) hq, e]
            exact ⟨_, rfl, b43, rfl, hs.arr [0] 2 (by decide)⟩
          · intro h34
            have g34 := of_decide_eq_false h34
            refine lw_on rfl rfl h34 ?_
            refine lw_val rfl (run_fieldAddr (o' := 1) Tryz.underlying41 rfl sz3 rfl rfl rfl) ?_
            refine lw_on rfl rfl h34 ?_
            refine lw_val rfl (run_load Tryz.underlying3 rfl rfl (hs.cellAt 0 rfl rfl)) ?_
            refine lw_on rfl rfl h34 ?_
            refine lw_val rfl (run_gtr rfl rfl) ?_
            refine lw_val rfl (run_pickF (v := .bool _) rfl h34 rfl) ?_
            refine lw_nil ?_
            refine cw_if rfl ?_ ?_
            · intro h38
              have g38 := of_decide_eq_true h38
              refine cw_seq ?_
              refine cw_region ?_
              refine lw_val rfl (run_move (v := .int .i64 _) rfl) ?_
              refine lw_val rfl (run_load Tryz.underlying30 rfl rfl (hE.cellW hs 105 (by decide) rfl)) ?_
              refine lw_val rfl (run_buildF [.int .i64 (x : Nat), errV ad 105] Tryz.underlying187 ze187 pl187 rfl (at_one _ _) rfl rfl) ?_
              refine lw_box (v := .agg _) hs rfl rfl ?_
              clear hs
              intro b43 w hs
              try simp only [List.set_cons_succ, List.set_cons_zero] at hs
              refine lw_val rfl (run_mkI Tryz.underlying185 rfl) ?_
              refine lw_val rfl (run_assign (v := .iface _ (.pointer (some _))) rfl) ?_
              refine lw_nil ?_
              refine cw_ret ?_
              refine res1 (v := .iface _ (.pointer (some _))) rfl rfl ?_
              have e : obBad y = 105 := by simp [obBad, h25]; omega
              rw [obF_bad (by omega) hy (by rw [e]; decide) hq, e]
              exact ⟨_, rfl, b43, rfl, hs.arr [0] 2 (by decide)⟩
            · intro h38
              have g38 := of_decide_eq_false h38
              refine cw_skip ?_
              refine cw_region ?_
              refine lw_val rfl (run_add64 rfl rfl rfl (inI (by omega) (by omega))) ?_
              refine lw_val rfl (run_move (v := .int .i64 _) rfl) ?_
              refine lw_nil ?_
              exact ⟨x + 1, by omega, ⟨by omega, (fun j hj u hu => by rcases Nat.lt_or_ge j x with h | h; exact hq j h u hu; obtain rfl : j = x := (by omega); rw [hy] at hu; cases hu; simp only [obBad, h25, Bool.true_eq_false, if_false]; rw [if_neg (by omega)]), hs.tail⟩, ⟨rfl, trivial⟩, by repeat (first | exact Out.mix _ _ _ | refine Out.updo rfl ?_ | refine Out.upd rfl ?_ | refine Out.mixIn rfl ?_)⟩
      · intro h19
        have g19 := of_decide_eq_false h19
        have hall : ∀ (j : Nat) (u : Ob), l[j]? = some u → obBad u = 0 := fun j u hu => hq j (by have := (List.getElem?_eq_some_iff.1 hu).1; omega) u hu
        refine cw_exit rfl ?_
        refine cw_seq ?_
        refine cw_seq ?_
        refine cw_region ?_
        refine lw_val rfl (run_move (v := .slice _ _ _) rfl) ?_
        refine lw_val rfl (run_lenS Tryz.underlying34 rfl) ?_
        refine lw_val rfl (run_move (v := .int .i64 _) rfl) ?_
        refine lw_nil ?_
        refine cw_block ?_
        refine cw_loop (X := Nat) [2, 5, 6, 48, 49, 50, 51, 52, 53, 54, 55, 56, 57, 58, 59] (fun k => [(48, .int .i64 (k : Nat))]) (fun k w => k ≤ l.length ∧ ((l.take k).map Prod.fst).Nodup ∧ Mem g w L) (fun k => l.length - k) (0) ?_ ?_ ?_
        · exact ⟨rfl, trivial⟩
        · exact ⟨Nat.zero_le _, by simp, hs⟩
        clear hs
        rintro x ξ w hI
        obtain ⟨hk1, hq1, hs⟩ := hI
        refine cw_seq ?_
        refine cw_region ?_
        refine lw_val rfl (run_lss rfl rfl) ?_
        refine lw_nil ?_
        refine cw_seq ?_
        refine cw_if rfl ?_ ?_
        · intro h49
          have g49 := of_decide_eq_true h49
          have hs0 := hs
          obtain ⟨y, hy⟩ : ∃ y, l[x]? = some y := ⟨_, List.getElem?_eq_getElem (by omega)⟩
          obtain ⟨b1, o1, rfl⟩ := hr.at hs (by rw [len_obL]; omega)
          refine cw_skip ?_
          refine cw_seq ?_
          refine cw_block ?_
          refine cw_seq ?_
          refine cw_region ?_
          refine lw_val rfl (run_move (v := .int .i64 _) rfl) ?_
          refine lw_val rfl (run_indexAddrK Tryz.underlying34 sz41 rfl rfl rfl (by omega) rfl) ?_
          refine lw_val rfl (run_loadK (cs := obL y) Tryz.underlying41 sz41 rfl (fun j v hj => hr.cell hs (obL_at hy) hj)) ?_
          refine lw_alloc hs rfl ze41 ?_
          clear hs
          intro b6 w hs
          try simp only [List.set_cons_succ, List.set_cons_zero] at hs
          refine lw_val rfl (run_assign (v := .int .i64 _) rfl) ?_
          refine lw_storeRow hs 0 rfl rfl rfl sz41 rfl rfl ?_
          clear hs
          intro w hs
          try simp only [List.set_cons_succ, List.set_cons_zero] at hs
          refine lw_nil ?_
          refine cw_seq ?_
          refine cw_region ?_
          refine lw_val rfl (run_move (v := .slice _ _ _) rfl) ?_
          refine lw_val rfl (run_move (v := .int .i64 _) rfl) ?_
          refine lw_val rfl (run_sliceToK Tryz.underlying34 sz41 rfl rfl (hi := x) rfl (by have := hr.cap hs0; omega) (.inr ⟨b1, o1, rfl⟩)) ?_
          refine lw_val rfl (run_makeFunc) ?_
          refine lw_call rfl en236 (conO_sl (l := l.take x) (o := y) hs (by rw [List.map_take]; exact hr.cons.take (by omega)) (by rw [List.length_take]; omega) (by rw [List.length_take]; omega)) ?_
          clear hs
          rintro _ w ⟨rfl, hs⟩
          refine lw_nil ?_
          refine cw_if rfl ?_ ?_
          · intro h57
            refine cw_seq ?_
            refine cw_region ?_
            refine lw_val rfl (run_load Tryz.underlying30 rfl rfl (hE.cellW hs 103 (by decide) rfl)) ?_
            refine lw_val rfl (run_assign (v := errV ad _) rfl) ?_
            refine lw_nil ?_
            refine cw_ret ?_
            refine res1 (v := errV ad _) rfl rfl ?_
            rw [obF_fine (by omega) hall, if_neg (dup_no hy h57)]
            exact ⟨_, rfl, RetF.bare hs.tail⟩
          · intro h57
            refine cw_skip ?_
            refine cw_region ?_
            refine lw_val rfl (run_add64 rfl rfl rfl (inI (by omega) (by omega))) ?_
            refine lw_val rfl (run_move (v := .int .i64 _) rfl) ?_
            refine lw_nil ?_
            exact ⟨x + 1, by omega, ⟨by omega, nodup_next hy hq1 h57, hs.tail⟩, ⟨rfl, trivial⟩, by repeat (first | exact Out.mix _ _ _ | refine Out.updo rfl ?_ | refine Out.upd rfl ?_ | refine Out.mixIn rfl ?_)⟩
        · intro h49
          have g49 := of_decide_eq_false h49
          refine cw_exit rfl ?_
          refine cw_seq ?_
          refine cw_region ?_
          refine lw_val rfl (run_assign (v := .nilIface) rfl) ?_
          refine lw_nil ?_
          refine cw_ret ?_
          refine res1 (v := .nilIface) rfl rfl ?_
          have e : x = l.length := by omega
          rw [e, List.take_length] at hq1
          rw [obF_fine (by omega) hall, if_pos hq1]
          exact ⟨_, rfl, by rw [← errV_zero ad]; exact RetF.bare hs⟩
end Go.Proofs.YtkogkokmcmallaaGreatDoor
