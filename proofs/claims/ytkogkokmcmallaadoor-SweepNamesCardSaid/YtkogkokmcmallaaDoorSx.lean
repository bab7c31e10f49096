/- The law SweepNames: orphans are told in their order, as often. -/
import Derived.Test.YtkogkokmcmallaaDoorSv
namespace Go.Proofs.YtkogkokmcmallaaDoor
set_option linter.all false
open Go.RowKit
attribute [local irreducible] errV
variable {g w : World} {L M : List HP} {ad : Nat → Addr} {p : Nat} {V : Vw}

theorem orphV_twice (V : Vw) (l : List ByteArray) : orphV V (l ++ l) = orphV V l ++ orphV V l := by simp [orphV]
theorem hasN_orph {V : Vw} {l : List ByteArray} {y : ByteArray} (hy : y ∈ l) : hasN (orphV V l) y = !V.refers y := by
  cases h : V.refers y with
  | true =>
    refine List.any_eq_false.2 fun x hx => ?_
    have := (List.mem_filter.1 hx).2
    simp only [decide_eq_true_eq]
    rintro rfl
    rw [h] at this; cases this
  | false => exact List.any_eq_true.2 ⟨y, List.mem_filter.2 ⟨hy, by rw [h]; rfl⟩, decide_eq_true rfl⟩
set_option maxHeartbeats 1000000 in
theorem sweepNames_sl (hE : ErrV ad g) (hs : Mem g w []) {a0 a1 : Option Addr} {n0 n1 c0 c1 : Nat} {st : List Int} {l : List ByteArray} (h0 : Came g (.slice a0 n0 c0) (intsL st)) (e0 : n0 = st.length) (h1 : Came g (.slice a1 n1 c1) (textsL l)) (e1 : n1 = l.length) : Calls Tryd.prog 3 #[.slice a0 n0 c0, .slice a1 n1 c1] w (Ret fun v w' => v = .bool true ∧ Mem g w' []) := by
  subst e0 e1
  refine calls_cw Tryd.func3 rfl rfl ?_
  skip
  refine cw_seq ?_
  refine cw_region ?_
  first | refine lw_val rfl (run_assign (v := .bool _) rfl) ?_
  refine lw_nil ?_
  refine cw_seq ?_
  refine cw_region ?_
  refine lw_call rfl en8 (first23_sl hE hs) ?_
  clear hs
  rintro _ w ⟨rfl, hs⟩
  first | refine lw_val rfl (run_assign (v := .bool _) rfl) ?_
  refine lw_nil ?_
  refine cw_seq ?_
  refine cw_seq ?_
  refine cw_region ?_
  first | refine lw_val rfl (run_move (v := .bool _) rfl) ?_
  refine lw_val rfl (run_not rfl) ?_
  refine lw_nil ?_
  refine cw_iff rfl (not_f (rfl)) ?_
  refine cw_skip ?_
  refine cw_seq ?_
  refine cw_seq ?_
  refine cw_region ?_
  first | refine lw_val rfl (run_move (v := .slice _ _ _) rfl) ?_
  refine lw_val rfl (run_lenS Tryd.underlying23 rfl) ?_
  refine lw_val rfl (run_gtr rfl rfl) ?_
  first | refine lw_val rfl (run_move (v := .bool _) rfl) ?_
  refine lw_split (t := _) (d := 18) rfl ?_ ?_
  · intro h17
    have g17 := of_decide_eq_true h17
    refine lw_off rfl rfl rfl h17 ?_
    refine lw_off rfl rfl rfl h17 ?_
    first | refine lw_val rfl (run_pickT (v := .bool _) rfl h17 rfl) ?_
    refine lw_nil ?_
    refine cw_ift rfl rfl ?_
    refine cw_seq ?_
    refine cw_region ?_
    first | refine lw_val rfl (run_move (v := .bool _) rfl) ?_
    first | refine lw_val rfl (run_assign (v := .bool _) rfl) ?_
    refine lw_nil ?_
    refine cw_ret ?_
    refine res1 (v := .bool _) rfl rfl ?_
    exact ⟨_, rfl, rfl, hs⟩
  · intro h17
    have g17 := of_decide_eq_false h17
    refine lw_on rfl rfl h17 ?_
    first | refine lw_val rfl (run_move (v := .bool _) rfl) ?_
    refine lw_on rfl rfl h17 ?_
    refine lw_val rfl (run_not rfl) ?_
    first | refine lw_val rfl (run_pickF (v := .bool _) rfl h17 rfl) ?_
    refine lw_nil ?_
    refine cw_iff rfl (not_f (rfl)) ?_
    refine cw_skip ?_
    refine cw_seq ?_
    refine cw_region ?_
    first | refine lw_val rfl (run_move (v := .slice _ _ _) rfl) ?_
    refine lw_call rfl en9 (made_sl hE hs (h0.rd _) rfl) ?_
    clear hs
    rintro _ w ⟨p, rfl, hs⟩
    obtain ⟨V, hV⟩ : ∃ V, V = madeV st 4 := ⟨_, rfl⟩
    rw [← hV] at hs
    first | refine lw_val rfl (run_assign (v := .pointer (some _)) rfl) ?_ | refine lw_val rfl (run_assign (v := .pointer none) rfl) ?_ | refine lw_val rfl (run_assign (v := .pointer _) rfl) ?_
    refine lw_nil ?_
    refine cw_seq ?_
    refine cw_seq ?_
    refine cw_region ?_
    first | refine lw_val rfl (run_move (v := .pointer (some _)) rfl) ?_ | refine lw_val rfl (run_move (v := .pointer none) rfl) ?_ | refine lw_val rfl (run_move (v := .pointer _) rfl) ?_
    refine lw_val rfl (run_eqpn Tryd.underlying25 rfl rfl) ?_
    refine lw_nil ?_
    refine cw_iff rfl (rfl) ?_
    refine cw_skip ?_
    refine cw_seq ?_
    refine cw_seq ?_
    refine cw_region ?_
    first | refine lw_val rfl (run_assign (v := .int .i64 _) rfl) ?_
    refine lw_nil ?_
    refine cw_block ?_
    refine cw_loop (X := Nat) [4, 7, 27, 28, 29, 30, 31, 32, 33, 34, 35, 36, 37, 38] (fun k => [(7, .int .i64 (k : Nat))]) (fun k w => k ≤ l.length ∧ Mem g w [ViewC p V]) (fun k => l.length - k) (0) ?_ ?_ ?_
    · exact ⟨rfl, trivial⟩
    · exact ⟨Nat.zero_le _, hs⟩
    clear hs
    rintro x ξ w hI
    obtain ⟨hk, hs⟩ := hI
    refine cw_seq ?_
    refine cw_seq ?_
    refine cw_region ?_
    first | refine lw_val rfl (run_move (v := .int .i64 _) rfl) ?_
    first | refine lw_val rfl (run_move (v := .slice _ _ _) rfl) ?_
    refine lw_val rfl (run_lenS Tryd.underlying23 rfl) ?_
    refine lw_val rfl (run_lss rfl rfl) ?_
    refine lw_nil ?_
    refine cw_if rfl ?_ ?_
    · intro h30
      have g30 := of_decide_eq_true h30
      obtain ⟨y, hy⟩ : ∃ y, l[x]? = some y := ⟨_, List.getElem?_eq_getElem (by omega)⟩
      obtain ⟨b1, o1, rfl, _⟩ := (h1.rd _).cells' hs (by rw [textsL_len]; omega)
      refine cw_skip ?_
      refine cw_seq ?_
      refine cw_block ?_
      refine cw_seq ?_
      refine cw_region ?_
      first | refine lw_val rfl (run_move (v := .slice _ _ _) rfl) ?_
      first | refine lw_val rfl (run_move (v := .int .i64 _) rfl) ?_
      refine lw_val rfl (run_indexAddr Tryd.underlying23 sz9 rfl rfl rfl (by omega) rfl) ?_
      refine lw_val rfl (run_load Tryd.underlying9 rfl rfl ((h1.rd _).cellAt hs (textsL_at hy))) ?_
      refine lw_val rfl (run_lenT Tryd.underlying9 rfl) ?_
      refine lw_val rfl (run_gtr rfl rfl) ?_
      refine lw_nil ?_
      refine cw_if rfl ?_ ?_
      · intro h38
        have g38 := of_decide_eq_true h38
        refine cw_seq ?_
        refine cw_region ?_
        first | refine lw_val rfl (run_assign (v := .bool _) rfl) ?_
        refine lw_nil ?_
        refine cw_ret ?_
        refine res1 (v := .bool _) rfl rfl ?_
        exact ⟨_, rfl, rfl, hs.nil⟩
      · intro h38
        have g38 := of_decide_eq_false h38
        refine cw_skip ?_
        refine cw_region ?_
        first | refine lw_val rfl (run_move (v := .int .i64 _) rfl) ?_
        refine lw_val rfl (run_add64 rfl rfl rfl (inI (by omega) (by omega))) ?_
        first | refine lw_val rfl (run_assign (v := .int .i64 _) rfl) ?_
        refine lw_nil ?_
        exact ⟨x + 1, by omega, ⟨by omega, hs⟩, ⟨rfl, trivial⟩, by repeat (first | exact Out.mix _ _ _ | refine Out.updo rfl ?_ | refine Out.upd rfl ?_ | refine Out.mixIn rfl ?_)⟩
    · intro h30
      have g30 := of_decide_eq_false h30
      have hol := orphV_len V l
      refine cw_exit rfl ?_
      refine cw_seq ?_
      refine cw_region ?_
      refine lw_makeSlice hs rfl Tryd.underlying23 in9 rfl rfl rfl (l := 0) (c := 40) rfl rfl (by omega) (by omega) (by omega) ?_
      clear hs
      intro b39 w hs
      try simp only [List.set_cons_succ, List.set_cons_zero] at hs
      first | refine lw_val rfl (run_move (v := .slice _ _ _) rfl) ?_
      refine lw_append hs rfl 0 rfl Tryd.underlying23 in9 rfl rfl rfl (src_of_seq (P := Tryd.prog) Tryd.underlying23 ((h1.rd _).seq hs) (textsL_one _)) (by simp [textsL]; omega) (by simp [textsL]; omega) ?_
      clear hs
      intro a41 c41 w hs
      simp only [List.set_cons_succ, List.set_cons_zero] at hs
      first | refine lw_val rfl (run_move (v := .slice _ _ _) rfl) ?_
      refine lw_append hs rfl 0 rfl Tryd.underlying23 in9 rfl rfl rfl (src_of_seq (P := Tryd.prog) Tryd.underlying23 ((h1.rd _).seq hs) (textsL_one _)) (by simp [textsL]; omega) (by simp [textsL]; omega) ?_
      clear hs
      intro a43 c43 w hs
      simp only [List.set_cons_succ, List.set_cons_zero] at hs
      first | refine lw_val rfl (run_assign (v := .slice _ _ _) rfl) ?_
      refine lw_nil ?_
      refine cw_seq ?_
      refine cw_region ?_
      first | refine lw_val rfl (run_move (v := .pointer (some _)) rfl) ?_ | refine lw_val rfl (run_move (v := .pointer none) rfl) ?_ | refine lw_val rfl (run_move (v := .pointer _) rfl) ?_
      first | refine lw_val rfl (run_move (v := .slice _ _ _) rfl) ?_
      refine lw_call rfl en10 (orph_sl (L := [own _ _]) (hs.arr [1, 0] 2 (by decide)) (h1.rd _) rfl (by omega)) ?_
      clear hs
      rintro _ w ⟨s, rfl, hs⟩
      first | refine lw_val rfl (run_assign (v := .slice _ _ _) rfl) ?_
      refine lw_nil ?_
      refine cw_seq ?_
      refine cw_region ?_
      first | refine lw_val rfl (run_move (v := .pointer (some _)) rfl) ?_ | refine lw_val rfl (run_move (v := .pointer none) rfl) ?_ | refine lw_val rfl (run_move (v := .pointer _) rfl) ?_
      first | refine lw_val rfl (run_move (v := .slice _ _ _) rfl) ?_
      refine lw_call rfl en10 (orph_sl (l := l ++ l) (L := [own _ _, own _ _]) (hs.arr [1, 2, 0] 3 (by decide)) (Rd.own 0 (by simp [textsL])) (by simp [textsL]) (by simp; omega)) ?_
      clear hs
      rintro _ w ⟨t, rfl, hs⟩
      first | refine lw_val rfl (run_assign (v := .slice _ _ _) rfl) ?_
      refine lw_nil ?_
      refine cw_seq ?_
      refine cw_seq ?_
      refine cw_region ?_
      first | refine lw_val rfl (run_move (v := .slice _ _ _) rfl) ?_
      refine lw_makeSlice hs rfl Tryd.underlying23 in9 rfl rfl rfl (l := 0) (c := 40) rfl rfl (by omega) (by omega) (by omega) ?_
      clear hs
      intro b51 w hs
      try simp only [List.set_cons_succ, List.set_cons_zero] at hs
      first | refine lw_val rfl (run_move (v := .slice _ _ _) rfl) ?_
      refine lw_append hs rfl 0 rfl Tryd.underlying23 in9 rfl rfl rfl (src_of_seq (P := Tryd.prog) Tryd.underlying23 ((hs.rdOwn 4 rfl).seq hs) (textsL_one _)) (by simp [textsL]; omega) (by simp [textsL]; omega) ?_
      clear hs
      intro a53 c53 w hs
      simp only [List.set_cons_succ, List.set_cons_zero] at hs
      first | refine lw_val rfl (run_move (v := .slice _ _ _) rfl) ?_
      refine lw_append hs rfl 0 rfl Tryd.underlying23 in9 rfl rfl rfl (src_of_seq (P := Tryd.prog) Tryd.underlying23 ((hs.rdOwn 4 rfl).seq hs) (textsL_one _)) (by simp [textsL]; omega) (by simp [textsL]; omega) ?_
      clear hs
      intro a55 c55 w hs
      simp only [List.set_cons_succ, List.set_cons_zero] at hs
      refine lw_call rfl en11 (sameT_sl hs (la := orphV V (l ++ l)) (lb := orphV V l ++ orphV V l) (hs.rdOwn 1 rfl) (Rd.own 0 (by simp [textsL])) rfl (by simp [textsL]) (by have := orphV_len V (l ++ l); simp at this; omega)) ?_
      clear hs
      rintro _ w ⟨rfl, hs⟩
      refine lw_val rfl (run_not rfl) ?_
      refine lw_nil ?_
      refine cw_iff rfl (not_f (decide_eq_true (orphV_twice V l))) ?_
      refine cw_skip ?_
      refine cw_seq ?_
      refine cw_seq ?_
      refine cw_region ?_
      first | refine lw_val rfl (run_assign (v := .int .i64 _) rfl) ?_
      refine lw_nil ?_
      refine cw_block ?_
      refine cw_loop (X := Nat) [4, 11, 58, 59, 60, 61, 62, 63, 64, 65, 66, 67, 68, 69, 70, 71, 72, 73, 74, 75, 76] (fun k => [(11, .int .i64 (k : Nat))]) (fun k w => k ≤ l.length ∧ Mem g w [own (.slice s.1 (orphV V l).length s.2) (textsL (orphV V l)), ViewC p V]) (fun k => l.length - k) (0) ?_ ?_ ?_
      · exact ⟨rfl, trivial⟩
      · exact ⟨Nat.zero_le _, hs.arr [4, 2] 5 (by decide)⟩
      clear hs
      rintro x ξ w hI
      obtain ⟨hk1, hs⟩ := hI
      refine cw_seq ?_
      refine cw_seq ?_
      refine cw_region ?_
      first | refine lw_val rfl (run_move (v := .int .i64 _) rfl) ?_
      first | refine lw_val rfl (run_move (v := .slice _ _ _) rfl) ?_
      refine lw_val rfl (run_lenS Tryd.underlying23 rfl) ?_
      refine lw_val rfl (run_lss rfl rfl) ?_
      refine lw_nil ?_
      refine cw_if rfl ?_ ?_
      · intro h61
        have g61 := of_decide_eq_true h61
        obtain ⟨y, hy⟩ : ∃ y, l[x]? = some y := ⟨_, List.getElem?_eq_getElem (by omega)⟩
        obtain ⟨b1, o1, rfl, _⟩ := (h1.rd _).cells' hs (by rw [textsL_len]; omega)
        refine cw_skip ?_
        refine cw_seq ?_
        refine cw_block ?_
        refine cw_seq ?_
        refine cw_drawS mixes hs ?_
        intro w tr hK
        replace hs := tr _ hs
        clear tr
        first | refine aw_take 0 rfl (by kernel_rfl) (by kernel_rfl) (by kernel_rfl) rfl (fun w hs => run_move (v := .slice _ _ _) rfl) hK ?_
        first | refine aw_take 1 rfl (by kernel_rfl) (by kernel_rfl) (by kernel_rfl) rfl (fun w hs => run_move (v := .slice _ _ _) rfl) hK ?_
        first | refine aw_take 2 rfl (by kernel_rfl) (by kernel_rfl) (by kernel_rfl) rfl (fun w hs => run_move (v := .int .i64 _) rfl) hK ?_
        refine aw_take 3 rfl (by kernel_rfl) (by kernel_rfl) (by kernel_rfl) rfl (fun w hs => run_indexAddr Tryd.underlying23 sz9 rfl rfl rfl (by omega) rfl) hK ?_
        refine aw_take 4 rfl (by kernel_rfl) (by kernel_rfl) (by kernel_rfl) rfl (fun w hs => run_load Tryd.underlying9 rfl rfl ((h1.rd _).cellAt hs (textsL_at hy))) hK ?_
        first | refine aw_take 6 rfl (by kernel_rfl) (by kernel_rfl) (by kernel_rfl) rfl (fun w hs => run_move (v := .pointer (some _)) rfl) hK ?_ | refine aw_take 6 rfl (by kernel_rfl) (by kernel_rfl) (by kernel_rfl) rfl (fun w hs => run_move (v := .pointer none) rfl) hK ?_ | refine aw_take 6 rfl (by kernel_rfl) (by kernel_rfl) (by kernel_rfl) rfl (fun w hs => run_move (v := .pointer _) rfl) hK ?_
        first | refine aw_take 7 rfl (by kernel_rfl) (by kernel_rfl) (by kernel_rfl) rfl (fun w hs => run_move (v := .slice _ _ _) rfl) hK ?_
        first | refine aw_take 8 rfl (by kernel_rfl) (by kernel_rfl) (by kernel_rfl) rfl (fun w hs => run_move (v := .int .i64 _) rfl) hK ?_
        refine aw_take 9 rfl (by kernel_rfl) (by kernel_rfl) (by kernel_rfl) rfl (fun w hs => run_indexAddr Tryd.underlying23 sz9 rfl rfl rfl (by omega) rfl) hK ?_
        refine aw_take 10 rfl (by kernel_rfl) (by kernel_rfl) (by kernel_rfl) rfl (fun w hs => run_load Tryd.underlying9 rfl rfl ((h1.rd _).cellAt hs (textsL_at hy))) hK ?_
        refine aw_ready [5] (by kernel_rfl) (by simp) ?_
        refine ⟨⟨_, rfl, ?_⟩, trivial⟩
        refine lw_call rfl en12 (in_sl hs (hs.rdOwn 0 rfl) rfl (by omega) y) ?_
        clear hs
        rintro _ w ⟨rfl, hs⟩
        clear hK
        have hK := hs
        refine lw_nil ⟨hK, ?_⟩
        refine aw_ready [11] (by kernel_rfl) (by simp) ?_
        refine ⟨⟨_, rfl, ?_⟩, trivial⟩
        refine lw_call rfl en13 (refers_sl (L := [own _ _]) (hs.arr [1, 0] 2 (by decide)) y) ?_
        clear hs
        rintro _ w ⟨rfl, hs⟩
        replace hs := hs.arr [1, 0] 2 (by decide)
        clear hK
        have hK := hs
        refine lw_nil ⟨hK, ?_⟩
        refine aw_take 12 rfl (by kernel_rfl) (by kernel_rfl) (by kernel_rfl) rfl (fun w hs => run_eqb Tryd.underlying4 rfl rfl) hK ?_
        refine aw_done (by kernel_rfl) ?_
        clear hK
        refine cw_iff rfl (by rw [hasN_orph (List.mem_of_getElem? hy)]; cases V.refers y <;> rfl) ?_
        refine cw_skip ?_
        refine cw_region ?_
        first | refine lw_val rfl (run_move (v := .int .i64 _) rfl) ?_
        refine lw_val rfl (run_add64 rfl rfl rfl (inI (by omega) (by omega))) ?_
        first | refine lw_val rfl (run_assign (v := .int .i64 _) rfl) ?_
        refine lw_nil ?_
        exact ⟨x + 1, by omega, ⟨by omega, hs⟩, ⟨rfl, trivial⟩, by repeat (first | exact Out.mix _ _ _ | refine Out.updo rfl ?_ | refine Out.upd rfl ?_ | refine Out.mixIn rfl ?_)⟩
      · intro h61
        have g61 := of_decide_eq_false h61
        refine cw_exit rfl ?_
        refine cw_seq ?_
        refine cw_region ?_
        first | refine lw_val rfl (run_assign (v := .bool _) rfl) ?_
        refine lw_nil ?_
        refine cw_ret ?_
        refine res1 (v := .bool _) rfl rfl ?_
        exact ⟨_, rfl, rfl, hs.nil⟩
end Go.Proofs.YtkogkokmcmallaaDoor
