/- Manifests: objects, equality, what is amiss. -/
import Derived.Test.YtkogkokmcmallaaGreatDoorMa
namespace Go.Proofs.YtkogkokmcmallaaGreatDoor
set_option linter.all false
open Go.RowKit
attribute [local irreducible] errV
variable {g w : World} {L M : List HP} {ad : Nat → Addr} {p : Nat}

theorem RdK.take {k n c hi : Nat} {a : Option Addr} {rows : List (List Value)} (h : RdK g L k (.slice a n c) rows) (h2 : hi ≤ n) : RdK g L k (.slice a hi c) (rows.take hi) := fun w hs => by
  obtain ⟨a', n', c', hv, hn, hnc, h⟩ := h w hs
  cases hv
  refine ⟨_, _, _, rfl, by rw [List.length_take]; omega, by omega, ?_⟩
  rcases h with rfl | ⟨b, off, rfl, hb, h⟩
  · exact .inl (by simp)
  · refine .inr ⟨b, off, rfl, hb, fun q row hq j v hj => h q row ?_ j v hj⟩
    rw [List.getElem?_take] at hq
    split at hq
    · exact hq
    · cases hq
theorem cloneOb_sl (hs : Mem g w L) {a : Option Addr} {n c : Nat} {l : List Ob} (hr : RdK g L 3 (.slice a n c) (l.map obL)) (hn : n = l.length) (hlen : l.length ≤ 1000000) : Calls Tryz.prog 196 #[.slice a n c] w (Ret fun v w' => ∃ s : SA, v = .slice s.1 l.length s.2 ∧ Mem g w' (rowK 3 (.slice s.1 l.length s.2) (l.map obL) :: L)) := by
  subst hn
  rcases Nat.eq_zero_or_pos l.length with h0 | h0
  · obtain rfl : l = [] := List.eq_nil_of_length_eq_zero h0
    cases a with
    | none =>
      refine calls_cw Tryz.func196 rfl rfl ?_
      skip
      refine cw_seq ?_
      refine cw_region ?_
      refine lw_val rfl (run_assign (v := .slice _ _ _) rfl) ?_
      refine lw_nil ?_
      refine cw_seq ?_
      refine cw_seq ?_
      refine cw_region ?_
      refine lw_val rfl (run_move (v := .slice _ _ _) rfl) ?_
      refine lw_val rfl (run_eqsn Tryz.underlying34 rfl rfl) ?_
      refine lw_nil ?_
      refine cw_ift rfl (rfl) ?_
      refine cw_seq ?_
      refine cw_region ?_
      refine lw_val rfl (run_assign (v := .slice _ _ _) rfl) ?_
      refine lw_nil ?_
      refine cw_ret ?_
      refine res1 (v := .slice _ _ _) rfl rfl ?_
      exact ⟨_, rfl, (none, 0), rfl, hs.addE (rowK_nil 3 _)⟩
    | some a =>
      refine calls_cw Tryz.func196 rfl rfl ?_
      skip
      refine cw_seq ?_
      refine cw_region ?_
      refine lw_val rfl (run_assign (v := .slice _ _ _) rfl) ?_
      refine lw_nil ?_
      refine cw_seq ?_
      refine cw_seq ?_
      refine cw_region ?_
      refine lw_val rfl (run_move (v := .slice _ _ _) rfl) ?_
      refine lw_val rfl (run_eqsn Tryz.underlying34 rfl rfl) ?_
      refine lw_nil ?_
      refine cw_iff rfl (rfl) ?_
      refine cw_skip ?_
      refine cw_seq ?_
      refine cw_region ?_
      refine lw_buildNone (k := 3) hs rfl Tryz.underlying34 in41 ?_
      clear hs
      intro b5 w hs
      refine lw_val rfl (run_move (v := .slice _ _ _) rfl) ?_
      refine lw_appendRows0 rfl Tryz.underlying34 in41 rfl rfl ((hr.cons _ hs).src Tryz.underlying34 (by decide) (obL_rows [])) ?_
      refine lw_val rfl (run_assign (v := .slice _ _ _) rfl) ?_
      refine lw_nil ?_
      refine cw_ret ?_
      refine res1 (v := .slice _ _ _) rfl rfl ?_
      exact ⟨_, rfl, (some ⟨b5, 0, none⟩, 0), rfl, hs⟩
  · obtain ⟨b1, o1, rfl⟩ := hr.at hs (by rw [len_obL]; omega)
    refine calls_cw Tryz.func196 rfl rfl ?_
    skip
    refine cw_seq ?_
    refine cw_region ?_
    refine lw_val rfl (run_assign (v := .slice _ _ _) rfl) ?_
    refine lw_nil ?_
    refine cw_seq ?_
    refine cw_seq ?_
    refine cw_region ?_
    refine lw_val rfl (run_move (v := .slice _ _ _) rfl) ?_
    refine lw_val rfl (run_eqsn Tryz.underlying34 rfl rfl) ?_
    refine lw_nil ?_
    refine cw_iff rfl (rfl) ?_
    refine cw_skip ?_
    refine cw_seq ?_
    refine cw_region ?_
    refine lw_buildNone (k := 3) hs rfl Tryz.underlying34 in41 ?_
    clear hs
    intro b5 w hs
    refine lw_val rfl (run_move (v := .slice _ _ _) rfl) ?_
    refine lw_appendRows hs rfl 0 rfl (news := l.map obL) (by rw [len_obL]; omega) Tryz.underlying34 in41 rfl (obL_rows l) rfl rfl ((hr.cons _ hs).src Tryz.underlying34 (by decide) (obL_rows l)) (by simp; omega) (by simp; omega) ?_
    clear hs
    intro a7 c7 w hs
    simp only [List.set_cons_succ, List.set_cons_zero, List.length_nil, len_obL, Nat.zero_add, List.nil_append] at hs ⊢
    refine lw_val rfl (run_assign (v := .slice _ _ _) rfl) ?_
    refine lw_nil ?_
    refine cw_ret ?_
    refine res1 (v := .slice _ _ _) rfl rfl ?_
    exact ⟨_, rfl, (a7, c7), rfl, hs⟩
theorem eqPr_sl (hs : Mem g w L) {a b : Option Addr} {n m c d : Nat} {la lb : List Pr} (ha : RdK g L 2 (.slice a n c) (la.map prL)) (hb : RdK g L 2 (.slice b m d) (lb.map prL)) (hn : n = la.length) (hm : m = lb.length) (hlen : la.length ≤ 1000000) :
    Calls Tryz.prog 193 #[.slice a n c, .slice b m d] w (Ret fun v w' => v = .bool (decide (la = lb)) ∧ Mem g w' L) := by
  subst hn hm
  refine calls_cw Tryz.func193 rfl rfl ?_
  skip
  refine cw_seq ?_
  refine cw_region ?_
  refine lw_val rfl (run_assign (v := .bool _) rfl) ?_
  refine lw_nil ?_
  refine cw_seq ?_
  refine cw_seq ?_
  refine cw_region ?_
  refine lw_val rfl (run_move (v := .slice _ _ _) rfl) ?_
  refine lw_val rfl (run_lenS Tryz.underlying33 rfl) ?_
  refine lw_val rfl (run_move (v := .slice _ _ _) rfl) ?_
  refine lw_val rfl (run_lenS Tryz.underlying33 rfl) ?_
  refine lw_val rfl (run_nei rfl rfl) ?_
  refine lw_nil ?_
  refine cw_if rfl ?_ ?_
  · intro h10
    have g10 := ne_t h10
    refine cw_seq ?_
    refine cw_region ?_
    refine lw_val rfl (run_assign (v := .bool _) rfl) ?_
    refine lw_nil ?_
    refine cw_ret ?_
    refine res1 (v := .bool _) rfl rfl ?_
    exact ⟨_, rfl, ret_b (by rw [decide_eq_false (fun e => g10 (by rw [e]))]), hs⟩
  · intro h10
    have g10 := ne_f h10
    refine cw_skip ?_
    refine cw_seq ?_
    refine cw_seq ?_
    refine cw_region ?_
    refine lw_val rfl (run_move (v := .slice _ _ _) rfl) ?_
    refine lw_val rfl (run_lenS Tryz.underlying33 rfl) ?_
    refine lw_val rfl (run_move (v := .int .i64 _) rfl) ?_
    refine lw_nil ?_
    refine cw_block ?_
    refine cw_loop (X := Nat) [4, 5, 13, 14, 15, 16, 17, 18, 19, 20, 21, 22, 23, 24, 25] (fun k => [(13, .int .i64 (k : Nat))]) (fun k w => k ≤ la.length ∧ la.take k = lb.take k ∧ Mem g w L) (fun k => la.length - k) (0) ?_ ?_ ?_
    · exact ⟨rfl, trivial⟩
    · exact ⟨Nat.zero_le _, rfl, hs⟩
    clear hs
    rintro x ξ w hI
    obtain ⟨hk, hq, hs⟩ := hI
    refine cw_seq ?_
    refine cw_region ?_
    refine lw_val rfl (run_lss rfl rfl) ?_
    refine lw_nil ?_
    refine cw_seq ?_
    refine cw_if rfl ?_ ?_
    · intro h14
      have g14 := of_decide_eq_true h14
      obtain ⟨xa, hxa⟩ : ∃ xa, la[x]? = some xa := ⟨la[x]'(by omega), List.getElem?_eq_getElem _⟩
      obtain ⟨xb, hxb⟩ : ∃ xb, lb[x]? = some xb := ⟨lb[x]'(by omega), List.getElem?_eq_getElem _⟩
      obtain ⟨b1, o1, rfl⟩ := ha.at hs (by rw [len_prL]; omega)
      obtain ⟨b2, o2, rfl⟩ := hb.at hs (by rw [len_prL]; omega)
      refine cw_skip ?_
      refine cw_seq ?_
      refine cw_block ?_
      refine cw_seq ?_
      refine cw_region ?_
      refine lw_val rfl (run_move (v := .int .i64 _) rfl) ?_
      refine lw_val rfl (run_assign (v := .int .i64 _) rfl) ?_
      refine lw_nil ?_
      refine cw_seq ?_
      refine cw_drawS mixes hs ?_
      intro w tr hK
      replace hs := tr _ hs
      clear tr
      refine aw_take 0 rfl (by kernel_rfl) (by kernel_rfl) (by kernel_rfl) rfl (fun w hs => run_move (v := .slice _ _ _) rfl) hK ?_
      refine aw_take 1 rfl (by kernel_rfl) (by kernel_rfl) (by kernel_rfl) rfl (fun w hs => run_move (v := .int .i64 _) rfl) hK ?_
      refine aw_take 2 rfl (by kernel_rfl) (by kernel_rfl) (by kernel_rfl) rfl (fun w hs => run_indexAddrK Tryz.underlying33 sz141 rfl rfl rfl (by omega) rfl) hK ?_
      refine aw_take 3 rfl (by kernel_rfl) (by kernel_rfl) (by kernel_rfl) rfl (fun w hs => run_loadK (cs := prL xa) Tryz.underlying141 sz141 rfl (fun j v hj => ha.cell hs (prL_at hxa) hj)) hK ?_
      refine aw_take 4 rfl (by kernel_rfl) (by kernel_rfl) (by kernel_rfl) rfl (fun w hs => run_move (v := .slice _ _ _) rfl) hK ?_
      refine aw_take 5 rfl (by kernel_rfl) (by kernel_rfl) (by kernel_rfl) rfl (fun w hs => run_move (v := .int .i64 _) rfl) hK ?_
      refine aw_take 6 rfl (by kernel_rfl) (by kernel_rfl) (by kernel_rfl) rfl (fun w hs => run_indexAddrK Tryz.underlying33 sz141 rfl rfl rfl (by omega) rfl) hK ?_
      refine aw_take 7 rfl (by kernel_rfl) (by kernel_rfl) (by kernel_rfl) rfl (fun w hs => run_loadK (cs := prL xb) Tryz.underlying141 sz141 rfl (fun j v hj => hb.cell hs (prL_at hxb) hj)) hK ?_
      refine @aw_take _ _ _ _ _ _ _ _ _ _ _ _ _ _ 8 _ rfl (by kernel_rfl) (by kernel_rfl) (by kernel_rfl) rfl (fun w hs => run_nePr (a := xa) (b := xb) rfl rfl) hK ?_
      refine aw_done (by kernel_rfl) ?_
      clear hK
      refine cw_if rfl ?_ ?_
      · intro h24
        refine cw_seq ?_
        refine cw_region ?_
        refine lw_val rfl (run_assign (v := .bool _) rfl) ?_
        refine lw_nil ?_
        refine cw_ret ?_
        refine res1 (v := .bool _) rfl rfl ?_
        exact ⟨_, rfl, ret_b (by rw [decide_eq_false (fun e => by subst e; rw [hxa] at hxb; cases hxb; simp at h24)]), hs⟩
      · intro h24
        refine cw_skip ?_
        refine cw_region ?_
        refine lw_val rfl (run_add64 rfl rfl rfl (inI (by omega) (by omega))) ?_
        refine lw_val rfl (run_move (v := .int .i64 _) rfl) ?_
        refine lw_nil ?_
        exact ⟨x + 1, by omega, ⟨by omega, by rw [List.take_add_one, List.take_add_one, hxa, hxb, hq, of_decide_eq_true (not_c h24)], hs⟩, ⟨rfl, trivial⟩, by repeat (first | exact Out.mix _ _ _ | refine Out.updo rfl ?_ | refine Out.upd rfl ?_ | refine Out.mixIn rfl ?_)⟩
    · intro h14
      have g14 := of_decide_eq_false h14
      refine cw_exit rfl ?_
      refine cw_seq ?_
      refine cw_region ?_
      refine lw_val rfl (run_assign (v := .bool _) rfl) ?_
      refine lw_nil ?_
      refine cw_ret ?_
      refine res1 (v := .bool _) rfl rfl ?_
      have h1 : x = la.length := by omega
      rw [h1, List.take_of_length_le (Nat.le_refl _), List.take_of_length_le (by omega)] at hq
      exact ⟨_, rfl, ret_b (decide_eq_true hq).symm, hs⟩
theorem eqOb_sl (hs : Mem g w L) {a b : Option Addr} {n m c d : Nat} {la lb : List Ob} (ha : RdK g L 3 (.slice a n c) (la.map obL)) (hb : RdK g L 3 (.slice b m d) (lb.map obL)) (hn : n = la.length) (hm : m = lb.length) (hlen : la.length ≤ 1000000) :
    Calls Tryz.prog 194 #[.slice a n c, .slice b m d] w (Ret fun v w' => v = .bool (decide (la = lb)) ∧ Mem g w' L) := by
  subst hn hm
  refine calls_cw Tryz.func194 rfl rfl ?_
  skip
  refine cw_seq ?_
  refine cw_region ?_
  refine lw_val rfl (run_assign (v := .bool _) rfl) ?_
  refine lw_nil ?_
  refine cw_seq ?_
  refine cw_seq ?_
  refine cw_region ?_
  refine lw_val rfl (run_move (v := .slice _ _ _) rfl) ?_
  refine lw_val rfl (run_lenS Tryz.underlying34 rfl) ?_
  refine lw_val rfl (run_move (v := .slice _ _ _) rfl) ?_
  refine lw_val rfl (run_lenS Tryz.underlying34 rfl) ?_
  refine lw_val rfl (run_nei rfl rfl) ?_
  refine lw_nil ?_
  refine cw_if rfl ?_ ?_
  · intro h10
    have g10 := ne_t h10
    refine cw_seq ?_
    refine cw_region ?_
    refine lw_val rfl (run_assign (v := .bool _) rfl) ?_
    refine lw_nil ?_
    refine cw_ret ?_
    refine res1 (v := .bool _) rfl rfl ?_
    exact ⟨_, rfl, ret_b (by rw [decide_eq_false (fun e => g10 (by rw [e]))]), hs⟩
  · intro h10
    have g10 := ne_f h10
    refine cw_skip ?_
    refine cw_seq ?_
    refine cw_seq ?_
    refine cw_region ?_
    refine lw_val rfl (run_move (v := .slice _ _ _) rfl) ?_
    refine lw_val rfl (run_lenS Tryz.underlying34 rfl) ?_
    refine lw_val rfl (run_move (v := .int .i64 _) rfl) ?_
    refine lw_nil ?_
    refine cw_block ?_
    refine cw_loop (X := Nat) [4, 5, 13, 14, 15, 16, 17, 18, 19, 20, 21, 22, 23, 24, 25] (fun k => [(13, .int .i64 (k : Nat))]) (fun k w => k ≤ la.length ∧ la.take k = lb.take k ∧ Mem g w L) (fun k => la.length - k) (0) ?_ ?_ ?_
    · exact ⟨rfl, trivial⟩
    · exact ⟨Nat.zero_le _, rfl, hs⟩
    clear hs
    rintro x ξ w hI
    obtain ⟨hk, hq, hs⟩ := hI
    refine cw_seq ?_
    refine cw_region ?_
    refine lw_val rfl (run_lss rfl rfl) ?_
    refine lw_nil ?_
    refine cw_seq ?_
    refine cw_if rfl ?_ ?_
    · intro h14
      have g14 := of_decide_eq_true h14
      obtain ⟨xa, hxa⟩ : ∃ xa, la[x]? = some xa := ⟨la[x]'(by omega), List.getElem?_eq_getElem _⟩
      obtain ⟨xb, hxb⟩ : ∃ xb, lb[x]? = some xb := ⟨lb[x]'(by omega), List.getElem?_eq_getElem _⟩
      obtain ⟨b1, o1, rfl⟩ := ha.at hs (by rw [len_obL]; omega)
      obtain ⟨b2, o2, rfl⟩ := hb.at hs (by rw [len_obL]; omega)
      refine cw_skip ?_
      refine cw_seq ?_
      refine cw_block ?_
      refine cw_seq ?_
      refine cw_region ?_
      refine lw_val rfl (run_move (v := .int .i64 _) rfl) ?_
      refine lw_val rfl (run_assign (v := .int .i64 _) rfl) ?_
      refine lw_nil ?_
      refine cw_seq ?_
      refine cw_drawS mixes hs ?_
      intro w tr hK
      replace hs := tr _ hs
      clear tr
      refine aw_take 0 rfl (by kernel_rfl) (by kernel_rfl) (by kernel_rfl) rfl (fun w hs => run_move (v := .slice _ _ _) rfl) hK ?_
      refine aw_take 1 rfl (by kernel_rfl) (by kernel_rfl) (by kernel_rfl) rfl (fun w hs => run_move (v := .int .i64 _) rfl) hK ?_
      refine aw_take 2 rfl (by kernel_rfl) (by kernel_rfl) (by kernel_rfl) rfl (fun w hs => run_indexAddrK Tryz.underlying34 sz41 rfl rfl rfl (by omega) rfl) hK ?_
      refine aw_take 3 rfl (by kernel_rfl) (by kernel_rfl) (by kernel_rfl) rfl (fun w hs => run_loadK (cs := obL xa) Tryz.underlying41 sz41 rfl (fun j v hj => ha.cell hs (obL_at hxa) hj)) hK ?_
      refine aw_take 4 rfl (by kernel_rfl) (by kernel_rfl) (by kernel_rfl) rfl (fun w hs => run_move (v := .slice _ _ _) rfl) hK ?_
      refine aw_take 5 rfl (by kernel_rfl) (by kernel_rfl) (by kernel_rfl) rfl (fun w hs => run_move (v := .int .i64 _) rfl) hK ?_
      refine aw_take 6 rfl (by kernel_rfl) (by kernel_rfl) (by kernel_rfl) rfl (fun w hs => run_indexAddrK Tryz.underlying34 sz41 rfl rfl rfl (by omega) rfl) hK ?_
      refine aw_take 7 rfl (by kernel_rfl) (by kernel_rfl) (by kernel_rfl) rfl (fun w hs => run_loadK (cs := obL xb) Tryz.underlying41 sz41 rfl (fun j v hj => hb.cell hs (obL_at hxb) hj)) hK ?_
      refine @aw_take _ _ _ _ _ _ _ _ _ _ _ _ _ _ 8 _ rfl (by kernel_rfl) (by kernel_rfl) (by kernel_rfl) rfl (fun w hs => run_neOb (a := xa) (b := xb) rfl rfl) hK ?_
      refine aw_done (by kernel_rfl) ?_
      clear hK
      refine cw_if rfl ?_ ?_
      · intro h24
        refine cw_seq ?_
        refine cw_region ?_
        refine lw_val rfl (run_assign (v := .bool _) rfl) ?_
        refine lw_nil ?_
        refine cw_ret ?_
        refine res1 (v := .bool _) rfl rfl ?_
        exact ⟨_, rfl, ret_b (by rw [decide_eq_false (fun e => by subst e; rw [hxa] at hxb; cases hxb; simp at h24)]), hs⟩
      · intro h24
        refine cw_skip ?_
        refine cw_region ?_
        refine lw_val rfl (run_add64 rfl rfl rfl (inI (by omega) (by omega))) ?_
        refine lw_val rfl (run_move (v := .int .i64 _) rfl) ?_
        refine lw_nil ?_
        exact ⟨x + 1, by omega, ⟨by omega, by rw [List.take_add_one, List.take_add_one, hxa, hxb, hq, of_decide_eq_true (not_c h24)], hs⟩, ⟨rfl, trivial⟩, by repeat (first | exact Out.mix _ _ _ | refine Out.updo rfl ?_ | refine Out.upd rfl ?_ | refine Out.mixIn rfl ?_)⟩
    · intro h14
      have g14 := of_decide_eq_false h14
      refine cw_exit rfl ?_
      refine cw_seq ?_
      refine cw_region ?_
      refine lw_val rfl (run_assign (v := .bool _) rfl) ?_
      refine lw_nil ?_
      refine cw_ret ?_
      refine res1 (v := .bool _) rfl rfl ?_
      have h1 : x = la.length := by omega
      rw [h1, List.take_of_length_le (Nat.le_refl _), List.take_of_length_le (by omega)] at hq
      exact ⟨_, rfl, ret_b (decide_eq_true hq).symm, hs⟩
theorem sameNm_sl {o : Ob} {bo : Nat} {T : TypeId} (hs : Mem g w (cells bo (obL o) T :: L)) (y : Ob) : Calls Tryz.prog 237 #[.agg (obL y).toArray, .pointer (some ⟨bo, 0, none⟩)] w (Ret fun v w' => v = .bool (decide (y.1 = o.1)) ∧ Mem g w' (cells bo (obL o) T :: L)) := by
  refine calls_cw Tryz.func237 rfl rfl ?_
  skip
  refine cw_seq ?_
  refine cw_region ?_
  refine lw_box (v := .agg _) hs rfl rfl ?_
  clear hs
  intro b2 w hs
  try simp only [List.set_cons_succ, List.set_cons_zero] at hs
  refine lw_val rfl (run_assign (v := .bool _) rfl) ?_
  refine lw_nil ?_
  refine cw_seq ?_
  refine cw_region ?_
  refine lw_val rfl (run_fieldAddr (o' := 0) Tryz.underlying41 rfl sz9 rfl rfl rfl) ?_
  refine lw_val rfl (run_load Tryz.underlying9 rfl rfl (hs.cellAt 0 rfl rfl)) ?_
  refine lw_val rfl (run_fieldAddr (o' := 0) Tryz.underlying41 rfl sz9 rfl rfl rfl) ?_
  refine lw_val rfl (run_load Tryz.underlying9 rfl rfl (hs.cellAt 1 rfl rfl)) ?_
  refine lw_val rfl (run_eqs rfl rfl) ?_
  refine lw_val rfl (run_assign (v := .bool _) rfl) ?_
  refine lw_nil ?_
  refine cw_ret ?_
  refine res1 (v := .bool _) rfl rfl ?_
  exact ⟨_, rfl, rfl, hs.tail⟩
theorem idxO_sl {o : Ob} {bo : Nat} {T : TypeId} (hs : Mem g w (cells bo (obL o) T :: L)) {a : Option Addr} {n c : Nat} {l : List Ob} (hr : RdK g (cells bo (obL o) T :: L) 3 (.slice a n c) (l.map obL)) (hn : n = l.length) (hlen : l.length ≤ 1000000) : Calls Tryz.prog 269 #[.slice a n c, .func (.func 237) #[] #[.pointer (some ⟨bo, 0, none⟩)]] w (Ret fun v w' => ∃ r : Int, (0 ≤ r ↔ (l.any fun y => decide (y.1 = o.1)) = true) ∧ v = .int .i64 r ∧ Mem g w' (cells bo (obL o) T :: L)) := by
  subst hn
  refine calls_cw Tryz.func269 rfl rfl ?_
  skip
  refine cw_seq ?_
  refine cw_region ?_
  refine lw_val rfl (run_assign (v := .int .i64 _) rfl) ?_
  refine lw_nil ?_
  refine cw_seq ?_
  refine cw_seq ?_
  refine cw_region ?_
  refine lw_val rfl (run_move (v := .slice _ _ _) rfl) ?_
  refine lw_val rfl (run_lenS Tryz.underlying34 rfl) ?_
  refine lw_val rfl (run_move (v := .int .i64 _) rfl) ?_
  refine lw_nil ?_
  refine cw_block ?_
  refine cw_loop (X := Nat) [4, 5, 8, 9, 10, 11, 12, 13, 14, 15, 16, 17, 18] (fun k => [(8, .int .i64 (k : Nat))]) (fun k w => k ≤ l.length ∧ ((l.take k).any fun y => decide (y.1 = o.1)) = false ∧ Mem g w (cells bo (obL o) T :: L)) (fun k => l.length - k) (0) ?_ ?_ ?_
  · exact ⟨rfl, trivial⟩
  · exact ⟨Nat.zero_le _, rfl, hs⟩
  clear hs
  rintro x ξ w hI
  obtain ⟨hk, hq, hs⟩ := hI
  refine cw_seq ?_
  refine cw_region ?_
  refine lw_val rfl (run_lss rfl rfl) ?_
  refine lw_nil ?_
  refine cw_seq ?_
  refine cw_if rfl ?_ ?_
  · intro h9
    have g9 := of_decide_eq_true h9
    obtain ⟨y, hy⟩ : ∃ y, l[x]? = some y := ⟨_, List.getElem?_eq_getElem (by omega)⟩
    obtain ⟨b1, o1, rfl⟩ := hr.at hs (by rw [len_obL]; omega)
    refine cw_skip ?_
    refine cw_seq ?_
    refine cw_block ?_
    refine cw_seq ?_
    refine cw_region ?_
    refine lw_val rfl (run_move (v := .int .i64 _) rfl) ?_
    refine lw_val rfl (run_assign (v := .int .i64 _) rfl) ?_
    refine lw_nil ?_
    refine cw_seq ?_
    refine cw_region ?_
    refine lw_val rfl (run_move (v := .func _ _ _) rfl) ?_
    refine lw_val rfl (run_move (v := .slice _ _ _) rfl) ?_
    refine lw_val rfl (run_move (v := .int .i64 _) rfl) ?_
    refine lw_val rfl (run_indexAddrK Tryz.underlying34 sz41 rfl rfl rfl (by omega) rfl) ?_
    refine lw_val rfl (run_loadK (cs := obL y) Tryz.underlying41 sz41 rfl (fun j v hj => hr.cell hs (obL_at hy) hj)) ?_
    refine lw_callv rfl (cap := #[.pointer (some ⟨bo, 0, none⟩)]) en237 rfl (sameNm_sl hs y) ?_
    clear hs
    rintro _ w ⟨rfl, hs⟩
    refine lw_nil ?_
    refine cw_if rfl ?_ ?_
    · intro h16
      refine cw_seq ?_
      refine cw_region ?_
      refine lw_val rfl (run_move (v := .int .i64 _) rfl) ?_
      refine lw_val rfl (run_assign (v := .int .i64 _) rfl) ?_
      refine lw_nil ?_
      refine cw_ret ?_
      refine res1 (v := .int .i64 _) rfl rfl ?_
      exact ⟨_, rfl, (x : Nat), ⟨fun _ => List.any_eq_true.2 ⟨y, List.mem_of_getElem? hy, h16⟩, fun _ => by omega⟩, rfl, hs⟩
    · intro h16
      refine cw_skip ?_
      refine cw_region ?_
      refine lw_val rfl (run_add64 rfl rfl rfl (inI (by omega) (by omega))) ?_
      refine lw_val rfl (run_move (v := .int .i64 _) rfl) ?_
      refine lw_nil ?_
      exact ⟨x + 1, by omega, ⟨by omega, by rw [List.take_add_one, hy, List.any_append, hq]; simpa using h16, hs⟩, ⟨rfl, trivial⟩, by repeat (first | exact Out.mix _ _ _ | refine Out.updo rfl ?_ | refine Out.upd rfl ?_ | refine Out.mixIn rfl ?_)⟩
  · intro h9
    have g9 := of_decide_eq_false h9
    refine cw_exit rfl ?_
    refine cw_seq ?_
    refine cw_region ?_
    refine lw_val rfl (run_assign (v := .int .i64 _) rfl) ?_
    refine lw_nil ?_
    refine cw_ret ?_
    refine res1 (v := .int .i64 _) rfl rfl ?_
    have e : x = l.length := by omega
    rw [e, List.take_length] at hq
    exact ⟨_, rfl, -1, ⟨fun h => by omega, fun h => by rw [hq] at h; cases h⟩, rfl, hs⟩
theorem conO_sl {o : Ob} {bo : Nat} {T : TypeId} (hs : Mem g w (cells bo (obL o) T :: L)) {a : Option Addr} {n c : Nat} {l : List Ob} (hr : RdK g (cells bo (obL o) T :: L) 3 (.slice a n c) (l.map obL)) (hn : n = l.length) (hlen : l.length ≤ 1000000) : Calls Tryz.prog 236 #[.slice a n c, .func (.func 237) #[] #[.pointer (some ⟨bo, 0, none⟩)]] w (Ret fun v w' => v = .bool (l.any fun y => decide (y.1 = o.1)) ∧ Mem g w' (cells bo (obL o) T :: L)) := by
  refine calls_cw Tryz.func236 rfl rfl ?_
  skip
  refine cw_seq ?_
  refine cw_region ?_
  refine lw_val rfl (run_assign (v := .bool _) rfl) ?_
  refine lw_nil ?_
  refine cw_seq ?_
  refine cw_region ?_
  refine lw_val rfl (run_move (v := .slice _ _ _) rfl) ?_
  refine lw_val rfl (run_move (v := .func _ _ _) rfl) ?_
  refine lw_call rfl en269 (idxO_sl hs hr hn hlen) ?_
  clear hs
  rintro _ w ⟨r, hr2, rfl, hs⟩
  refine lw_val rfl (run_geq rfl rfl) ?_
  refine lw_val rfl (run_assign (v := .bool _) rfl) ?_
  refine lw_nil ?_
  refine cw_ret ?_
  refine res1 (v := .bool _) rfl rfl ?_
  exact ⟨_, rfl, ret_b (by cases h : (l.any fun y => decide (y.1 = o.1)); exact decide_eq_false (fun h2 => by rw [h] at hr2; exact absurd (hr2.1 h2) (by decide)); exact decide_eq_true (hr2.2 h)), hs⟩
end Go.Proofs.YtkogkokmcmallaaGreatDoor
