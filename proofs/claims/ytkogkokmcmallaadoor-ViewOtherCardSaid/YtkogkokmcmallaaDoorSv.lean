/- Sweeps: orphans; the laws SweepNames. -/
import Derived.Test.YtkogkokmcmallaaDoorSw
namespace Go.Proofs.YtkogkokmcmallaaDoor
set_option linter.all false
open Go.RowKit
attribute [local irreducible] errV
variable {g w : World} {L M : List HP} {ad : Nat → Addr} {p : Nat} {V : Vw}

def orphV (V : Vw) (l : List ByteArray) : List ByteArray := l.filter fun n => !V.refers n
theorem orphV_next {l : List ByteArray} {k : Nat} {y : ByteArray} (hy : l[k]? = some y) : orphV V (l.take (k + 1)) = orphV V (l.take k) ++ (if V.refers y then [] else [y]) := by
  rw [orphV, List.take_add_one, hy, List.filter_append, orphV]
  congr 1
  cases h : V.refers y <;> simp [h]
theorem orphV_len (V : Vw) (l : List ByteArray) : (orphV V l).length ≤ l.length := List.length_filter_le _ _
theorem orph_sl (hs : Mem g w (ViewC p V :: L)) {a : Option Addr} {n c : Nat} {l : List ByteArray} (hr : Rd g L (.slice a n c) (textsL l)) (hn : n = l.length) (hlen : l.length ≤ 1000000) : Calls Tryd.prog 10 #[.pointer (some ⟨p, 0, none⟩), .slice a n c] w (Ret fun v w' => ∃ s : SA, v = .slice s.1 (orphV V l).length s.2 ∧ Mem g w' (own (.slice s.1 (orphV V l).length s.2) (textsL (orphV V l)) :: ViewC p V :: L)) := by
  subst hn
  refine calls_cw Tryd.func10 rfl rfl ?_
  skip
  refine cw_seq ?_
  refine cw_region ?_
  first | refine lw_val rfl (run_assign (v := .slice _ _ _) rfl) ?_
  refine lw_nil ?_
  refine cw_seq ?_
  refine cw_region ?_
  first | refine lw_val rfl (run_assign (v := .slice _ _ _) rfl) ?_
  refine lw_nil ?_
  refine cw_seq ?_
  refine cw_seq ?_
  refine cw_region ?_
  first | refine lw_val rfl (run_move (v := .slice _ _ _) rfl) ?_
  refine lw_val rfl (run_lenS Tryd.underlying23 rfl) ?_
  first | refine lw_val rfl (run_move (v := .int .i64 _) rfl) ?_
  refine lw_nil ?_
  replace hs := hs.addE (own_nil _)
  refine cw_block ?_
  refine cw_loop (X := Nat × SA) [5, 7, 10, 11, 12, 13, 14, 15, 16, 17, 18, 19, 20, 21, 22] (fun q => [(5, .slice q.2.1 (orphV V (l.take q.1)).length q.2.2), (10, .int .i64 (q.1 : Nat))]) (fun q w => q.1 ≤ l.length ∧ Mem g w (own (.slice q.2.1 (orphV V (l.take q.1)).length q.2.2) (textsL (orphV V (l.take q.1))) :: ViewC p V :: L)) (fun q => l.length - q.1) ((0, (none, 0))) ?_ ?_ ?_
  · exact ⟨rfl, rfl, trivial⟩
  · exact ⟨Nat.zero_le _, hs⟩
  clear hs
  rintro x ξ w hI
  obtain ⟨k, s⟩ := x
  obtain ⟨hk, hs⟩ := hI
  simp only at hk hs
  show cw _ _ _ _ _ _ (updL (mix _ ξ _) [(5, .slice s.1 (orphV V (l.take k)).length s.2), (10, .int .i64 (k : Nat))]) w
  refine cw_seq ?_
  refine cw_region ?_
  refine lw_val rfl (run_lss rfl rfl) ?_
  refine lw_nil ?_
  refine cw_seq ?_
  refine cw_if rfl ?_ ?_
  · intro h11
    have g11 := of_decide_eq_true h11
    obtain ⟨y, hy⟩ : ∃ y, l[k]? = some y := ⟨_, List.getElem?_eq_getElem (by omega)⟩
    obtain ⟨b1, o1, rfl, _⟩ := hr.cons.cons.cells' hs (by rw [textsL_len]; omega)
    have hnx := orphV_next (V := V) hy
    have hol := orphV_len V (l.take k)
    refine cw_skip ?_
    refine cw_seq ?_
    refine cw_block ?_
    refine cw_seq ?_
    refine cw_region ?_
    refine lw_val rfl (run_indexAddr Tryd.underlying23 sz9 rfl rfl rfl (by omega) rfl) ?_
    refine lw_val rfl (run_load Tryd.underlying9 rfl rfl (hr.cons.cons.cellAt hs (textsL_at hy))) ?_
    first | refine lw_val rfl (run_assign (v := .string _) rfl) ?_
    refine lw_nil ?_
    refine cw_seq ?_
    refine cw_region ?_
    first | refine lw_val rfl (run_move (v := .pointer (some _)) rfl) ?_ | refine lw_val rfl (run_move (v := .pointer none) rfl) ?_ | refine lw_val rfl (run_move (v := .pointer _) rfl) ?_
    first | refine lw_val rfl (run_move (v := .string _) rfl) ?_
    refine lw_call rfl en13 (refers_sl (hs.arr [1, 0] 2 (by decide)) y) ?_
    clear hs
    rintro _ w ⟨rfl, hs⟩
    refine lw_val rfl (run_not rfl) ?_
    refine lw_nil ?_
    refine cw_if rfl ?_ ?_
    · intro h16
      replace h16 := not_b h16
      refine cw_region ?_
      first | refine lw_val rfl (run_move (v := .slice _ _ _) rfl) ?_
      first | refine lw_val rfl (run_move (v := .string _) rfl) ?_
      refine lw_buildSlice hs rfl ([.string y]) Tryd.underlying23 zs9 rfl (by simp [Value.cells]) rfl rfl rfl ?_
      clear hs
      intro b20 w hs
      try simp only [List.set_cons_succ, List.set_cons_zero] at hs
      refine lw_append hs rfl 2 rfl Tryd.underlying23 in9 rfl rfl rfl (src_of_seq (P := Tryd.prog) Tryd.underlying23 ((Rd.cells (n := 1) (cs := [.string y]) 0 rfl rfl).seq hs) (fun u hu => by simp at hu; subst hu; rfl)) (by simp [textsL] at *; omega) (by simp [textsL] at *; omega) ?_
      clear hs
      intro a21 c21 w hs
      simp only [List.set_cons_succ, List.set_cons_zero] at hs
      first | refine lw_val rfl (run_assign (v := .slice _ _ _) rfl) ?_
      refine lw_nil ?_
      refine cw_region ?_
      refine lw_val rfl (run_add64 rfl rfl rfl (inI (by omega) (by omega))) ?_
      first | refine lw_val rfl (run_move (v := .int .i64 _) rfl) ?_
      refine lw_nil ?_
      rw [h16] at hnx
      exact ⟨(k + 1, (a21, c21)), by simp only; omega, ⟨by simp only; omega, by simp only [hnx, textsL_app, Bool.false_eq_true, if_false, List.length_append, List.length_cons, List.length_nil]; have h3 := hs.arr [2, 1] 3 (by decide); rw [textsL_len] at h3; exact h3⟩, ⟨by simp only [hnx, Bool.false_eq_true, if_false, List.length_append, textsL_len]; rfl, rfl, trivial⟩, by repeat (first | exact Out.mix _ _ _ | refine Out.updo rfl ?_ | refine Out.upd rfl ?_ | refine Out.mixIn rfl ?_)⟩
    · intro h16
      replace h16 := not_c h16
      refine cw_skip ?_
      refine cw_region ?_
      refine lw_val rfl (run_add64 rfl rfl rfl (inI (by omega) (by omega))) ?_
      first | refine lw_val rfl (run_move (v := .int .i64 _) rfl) ?_
      refine lw_nil ?_
      rw [h16] at hnx
      exact ⟨(k + 1, s), by simp only; omega, ⟨by simp only; omega, by simp only [hnx, if_true, List.append_nil]; exact hs.arr [1, 0] 2 (by decide)⟩, ⟨by simp only [hnx, if_true, List.append_nil]; rfl, rfl, trivial⟩, by repeat (first | exact Out.mix _ _ _ | refine Out.updo rfl ?_ | refine Out.upd rfl ?_ | refine Out.mixIn rfl ?_)⟩
  · intro h11
    have g11 := of_decide_eq_false h11
    refine cw_exit rfl ?_
    refine cw_seq ?_
    refine cw_region ?_
    first | refine lw_val rfl (run_move (v := .slice _ _ _) rfl) ?_
    first | refine lw_val rfl (run_assign (v := .slice _ _ _) rfl) ?_
    refine lw_nil ?_
    refine cw_ret ?_
    refine res1 (v := .slice _ _ _) rfl rfl ?_
    have e : k = l.length := by omega
    subst e
    rw [List.take_length] at hs ⊢
    exact ⟨_, rfl, s, rfl, hs⟩
theorem in_sl (hs : Mem g w L) {a : Option Addr} {n c : Nat} {l : List ByteArray} (hr : Rd g L (.slice a n c) (textsL l)) (hn : n = l.length) (hlen : l.length ≤ 1000000) (y : ByteArray) : Calls Tryd.prog 12 #[.slice a n c, .string y] w (Ret fun v w' => v = .bool (hasN l y) ∧ Mem g w' L) := by
  subst hn
  refine calls_cw Tryd.func12 rfl rfl ?_
  skip
  refine cw_seq ?_
  refine cw_region ?_
  first | refine lw_val rfl (run_assign (v := .bool _) rfl) ?_
  refine lw_nil ?_
  refine cw_seq ?_
  refine cw_seq ?_
  refine cw_region ?_
  first | refine lw_val rfl (run_assign (v := .int .i64 _) rfl) ?_
  refine lw_nil ?_
  refine cw_block ?_
  refine cw_loop (X := Nat) [4, 5, 6, 7, 8, 9, 10, 11, 12, 13, 14, 15, 16, 17] (fun k => [(5, .int .i64 (k : Nat))]) (fun k w => k ≤ l.length ∧ hasN (l.take k) y = false ∧ Mem g w L) (fun k => l.length - k) (0) ?_ ?_ ?_
  · exact ⟨rfl, trivial⟩
  · exact ⟨Nat.zero_le _, rfl, hs⟩
  clear hs
  rintro x ξ w hI
  obtain ⟨hk, hq, hs⟩ := hI
  refine cw_seq ?_
  refine cw_seq ?_
  refine cw_region ?_
  first | refine lw_val rfl (run_move (v := .int .i64 _) rfl) ?_
  first | refine lw_val rfl (run_move (v := .slice _ _ _) rfl) ?_
  refine lw_val rfl (run_lenS Tryd.underlying23 rfl) ?_
  refine lw_val rfl (run_lss rfl rfl) ?_
  refine lw_nil ?_
  refine cw_if rfl ?_ ?_
  · intro h9
    have g9 := of_decide_eq_true h9
    obtain ⟨z, hz⟩ : ∃ z, l[x]? = some z := ⟨_, List.getElem?_eq_getElem (by omega)⟩
    obtain ⟨b1, o1, rfl, _⟩ := hr.cells' hs (by rw [textsL_len]; omega)
    refine cw_skip ?_
    refine cw_seq ?_
    refine cw_block ?_
    refine cw_seq ?_
    refine cw_region ?_
    first | refine lw_val rfl (run_move (v := .slice _ _ _) rfl) ?_
    first | refine lw_val rfl (run_move (v := .int .i64 _) rfl) ?_
    refine lw_val rfl (run_indexAddr Tryd.underlying23 sz9 rfl rfl rfl (by omega) rfl) ?_
    refine lw_val rfl (run_load Tryd.underlying9 rfl rfl (hr.cellAt hs (textsL_at hz))) ?_
    first | refine lw_val rfl (run_move (v := .string _) rfl) ?_
    refine lw_val rfl (run_eqs rfl rfl) ?_
    refine lw_nil ?_
    refine cw_if rfl ?_ ?_
    · intro h17
      have g17 := of_decide_eq_true h17
      refine cw_seq ?_
      refine cw_region ?_
      first | refine lw_val rfl (run_assign (v := .bool _) rfl) ?_
      refine lw_nil ?_
      refine cw_ret ?_
      refine res1 (v := .bool _) rfl rfl ?_
      exact ⟨_, rfl, ret_b (List.any_eq_true.2 ⟨z, List.mem_of_getElem? hz, decide_eq_true g17⟩).symm, hs⟩
    · intro h17
      have g17 := of_decide_eq_false h17
      refine cw_skip ?_
      refine cw_region ?_
      first | refine lw_val rfl (run_move (v := .int .i64 _) rfl) ?_
      refine lw_val rfl (run_add64 rfl rfl rfl (inI (by omega) (by omega))) ?_
      first | refine lw_val rfl (run_assign (v := .int .i64 _) rfl) ?_
      refine lw_nil ?_
      exact ⟨x + 1, by omega, ⟨by omega, by rw [hasN, List.take_add_one, hz, List.any_append]; rw [hasN] at hq; rw [hq]; simp; exact g17, hs⟩, ⟨rfl, trivial⟩, by repeat (first | exact Out.mix _ _ _ | refine Out.updo rfl ?_ | refine Out.upd rfl ?_ | refine Out.mixIn rfl ?_)⟩
  · intro h9
    have g9 := of_decide_eq_false h9
    refine cw_exit rfl ?_
    refine cw_seq ?_
    refine cw_region ?_
    first | refine lw_val rfl (run_assign (v := .bool _) rfl) ?_
    refine lw_nil ?_
    refine cw_ret ?_
    refine res1 (v := .bool _) rfl rfl ?_
    have e : x = l.length := by omega
    rw [e, List.take_length] at hq
    exact ⟨_, rfl, ret_b hq.symm, hs⟩
theorem Mem.obsAt {m : Mf} {s1 s2 : SA} (hs : Mem g w (mfP m s1 s2 ++ L)) (h0 : 0 < m.obs.length) : ∃ b o c, s2 = (some ⟨b, o, none⟩, c) ∧ RdK g (mfP m s1 s2 ++ L) 3 (.slice (some ⟨b, o, none⟩) m.obs.length c) (m.obs.map obL) := by
  obtain ⟨a, c⟩ := s2
  have h : RdK g (mfP m s1 (a, c) ++ L) 3 (.slice a m.obs.length c) (m.obs.map obL) := RdK.row 1 rfl
  obtain ⟨b, o, rfl⟩ := h.at hs (by rw [len_obL]; exact h0)
  exact ⟨b, o, c, rfl, h⟩
theorem first_orph : orphV (madeV [2] 4) [objNm 0 bData (10 * 0)] = [] := by decide +kernel
theorem first23_sl (hE : ErrV ad g) (hs : Mem g w L) : Calls Tryd.prog 8 #[] w (Ret fun v w' => v = .bool true ∧ Mem g w' L) := by
  refine calls_cw Tryd.func8 rfl rfl ?_
  skip
  refine cw_seq ?_
  refine cw_region ?_
  first | refine lw_val rfl (run_assign (v := .bool _) rfl) ?_
  refine lw_nil ?_
  refine cw_seq ?_
  refine cw_region ?_
  refine lw_buildSlice hs rfl ([.int .i64 2]) Tryd.underlying22 zs3 rfl (by simp [Value.cells]) rfl rfl rfl ?_
  clear hs
  intro b2 w hs
  try simp only [List.set_cons_succ, List.set_cons_zero] at hs
  refine lw_call rfl en9 (made_sl hE hs (l := [2]) (Rd.cells (n := 1) 0 rfl rfl) rfl) ?_
  clear hs
  rintro _ w ⟨p, rfl, hs⟩
  first | refine lw_val rfl (run_assign (v := .pointer (some _)) rfl) ?_ | refine lw_val rfl (run_assign (v := .pointer none) rfl) ?_ | refine lw_val rfl (run_assign (v := .pointer _) rfl) ?_
  refine lw_nil ?_
  refine cw_seq ?_
  refine cw_region ?_
  first | refine lw_val rfl (run_move (v := .pointer (some _)) rfl) ?_ | refine lw_val rfl (run_move (v := .pointer none) rfl) ?_ | refine lw_val rfl (run_move (v := .pointer _) rfl) ?_
  refine lw_val rfl (run_nepn Tryd.underlying25 rfl rfl) ?_
  first | refine lw_val rfl (run_move (v := .bool _) rfl) ?_
  refine lw_on rfl rfl (rfl) ?_
  first | refine lw_val rfl (run_move (v := .pointer (some _)) rfl) ?_ | refine lw_val rfl (run_move (v := .pointer none) rfl) ?_ | refine lw_val rfl (run_move (v := .pointer _) rfl) ?_
  refine lw_on rfl rfl (rfl) ?_
  refine lw_call rfl en15 (one23_sl hs 0 (by decide)) ?_
  clear hs
  rintro _ w ⟨s1, s2, rfl, hs⟩
  obtain ⟨b9, o9, sc, rfl, hrk⟩ := hs.obsAt (by decide)
  refine lw_on rfl rfl (rfl) ?_
  refine lw_val rfl (run_field1 (v := .slice (some ⟨b9, o9, none⟩) 2 sc) Tryd.underlying39 rfl Tryd.isAgg37 rfl rfl) ?_
  refine lw_on rfl rfl (rfl) ?_
  refine lw_val rfl (run_indexAddrK Tryd.underlying37 sz35 rfl rfl (i := 0) rfl (by decide) rfl) ?_
  refine lw_on rfl rfl (rfl) ?_
  first | refine lw_val rfl (run_fieldAddr (o' := 0) Tryd.underlying35 rfl sz9 rfl rfl rfl) ?_ | refine lw_val rfl (run_fieldAddr Tryd.underlying35 rfl sz9 rfl rfl rfl) ?_
  refine lw_on rfl rfl (rfl) ?_
  refine lw_val rfl (run_load Tryd.underlying9 rfl rfl (hrk.cell hs (q := 0) (row := obL (objNm 0 bData (10 * 0), 0, 0)) rfl (j := 0) rfl)) ?_
  refine lw_on rfl rfl (rfl) ?_
  refine lw_buildSlice hs rfl ([.string (objNm 0 bData (10 * 0))]) Tryd.underlying23 zs9 rfl (by simp [Value.cells]) rfl rfl rfl ?_
  clear hs
  intro b13 w hs
  try simp only [List.set_cons_succ, List.set_cons_zero] at hs
  refine lw_on rfl rfl (rfl) ?_
  refine lw_call rfl en10 (orph_sl (l := [objNm 0 bData (10 * 0)]) (hs.arr [3, 0, 1, 2, 4] 5 (by decide)) (Rd.cells (n := 1) 0 rfl rfl) rfl (by simp)) ?_
  clear hs
  rintro _ w ⟨s, rfl, hs⟩
  rw [first_orph]
  refine lw_on rfl rfl (rfl) ?_
  refine lw_val rfl (run_lenS Tryd.underlying23 rfl) ?_
  refine lw_on rfl rfl (rfl) ?_
  refine lw_val rfl (run_eqi rfl rfl) ?_
  first | refine lw_val rfl (run_pickT (v := .bool _) rfl (rfl) rfl) ?_
  first | refine lw_val rfl (run_assign (v := .bool _) rfl) ?_
  refine lw_nil ?_
  refine cw_ret ?_
  refine res1 (v := .bool _) rfl rfl ?_
  exact ⟨_, rfl, rfl, hs.suffix 6 rfl⟩
end Go.Proofs.YtkogkokmcmallaaDoor
