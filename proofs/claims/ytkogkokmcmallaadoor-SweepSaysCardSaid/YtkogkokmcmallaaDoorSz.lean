/- The law SweepSays: orphans are the names that nobody refers to; loose uploads those that are not one's own. -/
import Derived.Test.YtkogkokmcmallaaDoorSy
namespace Go.Proofs.YtkogkokmcmallaaDoor
set_option linter.all false
open Go.RowKit
attribute [local irreducible] errV
variable {g w : World} {L M : List HP} {ad : Nat → Addr} {p : Nat} {V : Vw}

theorem ob_row (id : Nat) {q : Nat} (hq : q < 2) : ((oneM id (10 * id)).obs.map obL)[q]? = some (obL (objNm id (kindB q) (10 * id), 0, 0)) := by
  obtain rfl | rfl : q = 0 ∨ q = 1 := by omega
  · rfl
  · rfl
set_option maxHeartbeats 4000000 in
set_option maxRecDepth 10000 in
theorem sweepSays_sl (hE : ErrV ad g) (hs : Mem g w []) {a0 a1 a3 : Option Addr} {n0 n1 n3 c0 c1 c3 : Nat} {st l ids : List Int} {own_ : Int} (h0 : Came g (.slice a0 n0 c0) (intsL st)) (e0 : n0 = st.length) (h1 : Came g (.slice a1 n1 c1) (intsL l)) (e1 : n1 = l.length) (h3 : Came g (.slice a3 n3 c3) (intsL ids)) (e3 : n3 = ids.length) :
    Calls Tryd.prog 4 #[.slice a0 n0 c0, .slice a1 n1 c1, .int .i64 own_, .slice a3 n3 c3] w (Ret fun v w' => v = .bool true ∧ Mem g w' []) := by
  subst e0 e1 e3
  refine calls_cw Tryd.func4 rfl rfl ?_
  skip
  refine cw_seq ?_
  refine cw_region ?_
  first | refine lw_val rfl (run_assign (v := .bool _) rfl) ?_
  refine lw_nil ?_
  refine cw_seq ?_
  refine cw_region ?_
  refine lw_call rfl en8 (first23_sl hE hs) ?_
  clear hs
  rintro _ w ⟨rfl, hs⟩
  first | refine lw_val rfl (run_assign (v := .bool _) rfl) ?_
  refine lw_nil ?_
  refine cw_seq ?_
  refine cw_seq ?_
  refine cw_region ?_
  first | refine lw_val rfl (run_move (v := .bool _) rfl) ?_
  refine lw_val rfl (run_not rfl) ?_
  refine lw_nil ?_
  refine cw_iff rfl (not_f (rfl)) ?_
  refine cw_skip ?_
  refine cw_seq ?_
  refine cw_seq ?_
  refine cw_region ?_
  first | refine lw_val rfl (run_move (v := .slice _ _ _) rfl) ?_
  refine lw_val rfl (run_lenS Tryd.underlying22 rfl) ?_
  refine lw_val rfl (run_gtr rfl rfl) ?_
  first | refine lw_val rfl (run_move (v := .bool _) rfl) ?_
  refine lw_split (t := _) (d := 25) rfl ?_ ?_
  · intro h24
    have g24 := of_decide_eq_true h24
    refine lw_off rfl rfl rfl h24 ?_
    refine lw_off rfl rfl rfl h24 ?_
    refine lw_off rfl rfl rfl h24 ?_
    first | refine lw_val rfl (run_pickT (v := .bool _) rfl h24 rfl) ?_
    first | refine lw_val rfl (run_move (v := .bool _) rfl) ?_
    refine lw_off rfl rfl rfl rfl ?_
    refine lw_off rfl rfl rfl rfl ?_
    first | refine lw_val rfl (run_pickT (v := .bool _) rfl rfl rfl) ?_
    refine lw_nil ?_
    refine cw_ift rfl rfl ?_
    refine cw_seq ?_
    refine cw_region ?_
    first | refine lw_val rfl (run_move (v := .bool _) rfl) ?_
    first | refine lw_val rfl (run_assign (v := .bool _) rfl) ?_
    refine lw_nil ?_
    refine cw_ret ?_
    refine res1 (v := .bool _) rfl rfl ?_
    exact ⟨_, rfl, rfl, hs⟩
  · intro h24
    have g24 := of_decide_eq_false h24
    refine lw_on rfl rfl h24 ?_
    first | refine lw_val rfl (run_move (v := .slice _ _ _) rfl) ?_
    refine lw_on rfl rfl h24 ?_
    refine lw_val rfl (run_lenS Tryd.underlying22 rfl) ?_
    refine lw_on rfl rfl h24 ?_
    refine lw_val rfl (run_gtr rfl rfl) ?_
    first | refine lw_val rfl (run_pickF (v := .bool _) rfl h24 rfl) ?_
    first | refine lw_val rfl (run_move (v := .bool _) rfl) ?_
    refine lw_split (t := _) (d := 30) rfl ?_ ?_
    · intro h28
      have g28 := of_decide_eq_true h28
      refine lw_off rfl rfl rfl h28 ?_
      refine lw_off rfl rfl rfl h28 ?_
      first | refine lw_val rfl (run_pickT (v := .bool _) rfl h28 rfl) ?_
      refine lw_nil ?_
      refine cw_ift rfl rfl ?_
      refine cw_seq ?_
      refine cw_region ?_
      first | refine lw_val rfl (run_move (v := .bool _) rfl) ?_
      first | refine lw_val rfl (run_assign (v := .bool _) rfl) ?_
      refine lw_nil ?_
      refine cw_ret ?_
      refine res1 (v := .bool _) rfl rfl ?_
      exact ⟨_, rfl, rfl, hs⟩
    · intro h28
      have g28 := of_decide_eq_false h28
      refine lw_on rfl rfl h28 ?_
      first | refine lw_val rfl (run_move (v := .bool _) rfl) ?_
      refine lw_on rfl rfl h28 ?_
      refine lw_val rfl (run_not rfl) ?_
      first | refine lw_val rfl (run_pickF (v := .bool _) rfl h28 rfl) ?_
      refine lw_nil ?_
      refine cw_iff rfl (not_f (rfl)) ?_
      refine cw_skip ?_
      refine cw_seq ?_
      refine cw_region ?_
      first | refine lw_val rfl (run_move (v := .slice _ _ _) rfl) ?_
      refine lw_call rfl en9 (made_sl hE hs (h0.rd _) rfl) ?_
      clear hs
      rintro _ w ⟨p, rfl, hs⟩
      obtain ⟨V, hV⟩ : ∃ V, V = madeV st 4 := ⟨_, rfl⟩
      rw [← hV] at hs
      obtain ⟨N, hN⟩ : ∃ N, N = l.map askN := ⟨_, rfl⟩
      have hNl : N.length = l.length := by rw [hN, List.length_map]
      first | refine lw_val rfl (run_assign (v := .pointer (some _)) rfl) ?_ | refine lw_val rfl (run_assign (v := .pointer none) rfl) ?_ | refine lw_val rfl (run_assign (v := .pointer _) rfl) ?_
      refine lw_nil ?_
      refine cw_seq ?_
      refine cw_seq ?_
      refine cw_region ?_
      first | refine lw_val rfl (run_move (v := .pointer (some _)) rfl) ?_ | refine lw_val rfl (run_move (v := .pointer none) rfl) ?_ | refine lw_val rfl (run_move (v := .pointer _) rfl) ?_
      refine lw_val rfl (run_eqpn Tryd.underlying25 rfl rfl) ?_
      refine lw_nil ?_
      refine cw_iff rfl (rfl) ?_
      refine cw_skip ?_
      refine cw_seq ?_
      refine cw_region ?_
      first | refine lw_val rfl (run_assign (v := .slice _ _ _) rfl) ?_
      first | refine lw_val rfl (run_assign (v := .slice _ _ _) rfl) ?_
      refine lw_nil ?_
      replace hs := (hs.addE (own_nil _)).addE (own_nil _)
      refine cw_seq ?_
      refine cw_seq ?_
      refine cw_region ?_
      first | refine lw_val rfl (run_assign (v := .int .i64 _) rfl) ?_
      refine lw_nil ?_
      refine cw_block ?_
      refine cw_loop (X := Nat × SA × SA) [11, 12, 13, 14, 15, 16, 39, 40, 41, 42, 43, 44, 45, 46, 47, 48, 49, 50, 51, 52, 53, 54, 55, 56, 57, 58, 59, 60, 61, 62, 63, 64, 65, 66, 67, 68, 69, 70, 71, 72, 73, 74, 75, 76, 77, 78, 79, 80, 81, 82, 83, 84, 85, 86, 87, 88] (fun q => [(11, .slice q.2.1.1 q.1 q.2.1.2), (12, .slice q.2.2.1 (orphV V (N.take q.1)).length q.2.2.2), (13, .int .i64 (q.1 : Nat))]) (fun q w => q.1 ≤ l.length ∧ Mem g w [own (.slice q.2.1.1 q.1 q.2.1.2) (textsL (N.take q.1)), own (.slice q.2.2.1 (orphV V (N.take q.1)).length q.2.2.2) (textsL (orphV V (N.take q.1))), ViewC p V]) (fun q => l.length - q.1) ((0, (none, 0), (none, 0))) ?_ ?_ ?_
      · exact ⟨rfl, rfl, rfl, trivial⟩
      · exact ⟨Nat.zero_le _, hs⟩
      clear hs
      rintro x ξ w hI
      obtain ⟨i, s, t⟩ := x
      obtain ⟨hi, hs⟩ := hI
      simp only at hi hs
      show cw _ _ _ _ _ _ (updL (mix _ ξ _) [(11, .slice s.1 i s.2), (12, .slice t.1 (orphV V (N.take i)).length t.2), (13, .int .i64 (i : Nat))]) w
      refine cw_seq ?_
      refine cw_seq ?_
      refine cw_region ?_
      first | refine lw_val rfl (run_move (v := .int .i64 _) rfl) ?_
      first | refine lw_val rfl (run_move (v := .slice _ _ _) rfl) ?_
      refine lw_val rfl (run_lenS Tryd.underlying22 rfl) ?_
      refine lw_val rfl (run_lss rfl rfl) ?_
      refine lw_nil ?_
      refine cw_if rfl ?_ ?_
      · intro h42
        have g42 := of_decide_eq_true h42
        obtain ⟨z, hz⟩ : ∃ z, l[i]? = some z := ⟨_, List.getElem?_eq_getElem (by omega)⟩
        obtain ⟨b1, o1, rfl, _⟩ := (h1.rd _).cells' hs (by rw [intsL_len]; omega)
        have hNi : N[i]? = some (askN z) := by rw [hN, List.getElem?_map, hz]; rfl
        obtain ⟨id, hid⟩ : ∃ id, id = (z % ((6 : Nat) : Int)).toNat := ⟨_, rfl⟩
        obtain ⟨q, hq⟩ : ∃ q, q = (IntKind.i64.wrap (z.tdiv 6) % ((2 : Nat) : Int)).toNat := ⟨_, rfl⟩
        have hid6 : id < 6 := by have := Int.emod_lt_of_pos z (show (0 : Int) < (6 : Nat) by decide); have := Int.emod_nonneg z (show ((6 : Nat) : Int) ≠ 0 by decide); omega
        have hq2 : q < 2 := by have := Int.emod_lt_of_pos (IntKind.i64.wrap (z.tdiv 6)) (show (0 : Int) < (2 : Nat) by decide); have := Int.emod_nonneg (IntKind.i64.wrap (z.tdiv 6)) (show ((2 : Nat) : Int) ≠ 0 by decide); omega
        have hnx := orphV_next (V := V) hNi
        have hol := orphV_len V (N.take i)
        have htl : (N.take i).length = i := by rw [List.length_take]; omega
        refine cw_skip ?_
        refine cw_seq ?_
        refine cw_block ?_
        refine cw_seq ?_
        refine cw_region ?_
        first | refine lw_val rfl (run_move (v := .slice _ _ _) rfl) ?_
        first | refine lw_val rfl (run_move (v := .int .i64 _) rfl) ?_
        refine lw_val rfl (run_indexAddr Tryd.underlying22 sz3 rfl rfl rfl (by omega) rfl) ?_
        refine lw_val rfl (run_load Tryd.underlying3 rfl rfl ((h1.rd _).cellAt hs (intsL_at hz))) ?_
        refine lw_call rfl en14 (numberE_sl hs z 6 (by decide)) ?_
        clear hs
        rintro _ w ⟨rfl, hs⟩
        rw [← hid]
        first | refine lw_val rfl (run_assign (v := .int .i64 _) rfl) ?_
        refine lw_nil ?_
        refine cw_seq ?_
        refine cw_drawS mixes hs ?_
        intro w tr hK
        replace hs := tr _ hs
        clear tr
        first | refine aw_take 0 rfl (by kernel_rfl) (by kernel_rfl) (by kernel_rfl) rfl (fun w hs => run_move (v := .int .i64 _) rfl) hK ?_
        first | refine aw_take 3 rfl (by kernel_rfl) (by kernel_rfl) (by kernel_rfl) rfl (fun w hs => run_move (v := .slice _ _ _) rfl) hK ?_
        first | refine aw_take 4 rfl (by kernel_rfl) (by kernel_rfl) (by kernel_rfl) rfl (fun w hs => run_move (v := .int .i64 _) rfl) hK ?_
        refine aw_take 5 rfl (by kernel_rfl) (by kernel_rfl) (by kernel_rfl) rfl (fun w hs => run_indexAddr Tryd.underlying22 sz3 rfl rfl rfl (by omega) rfl) hK ?_
        refine aw_take 6 rfl (by kernel_rfl) (by kernel_rfl) (by kernel_rfl) rfl (fun w hs => run_load Tryd.underlying3 rfl rfl ((h1.rd _).cellAt hs (intsL_at hz))) hK ?_
        refine @aw_take _ _ _ _ _ _ _ _ _ _ _ _ _ _ 7 _ rfl (by kernel_rfl) (by kernel_rfl) (by kernel_rfl) rfl (fun w hs => run_quo rfl rfl (by decide)) hK ?_
        refine aw_ready [1] (by kernel_rfl) (by simp) ?_
        refine ⟨⟨_, rfl, ?_⟩, trivial⟩
        refine lw_call rfl en15 (one23_sl hs id hid6) ?_
        clear hs
        rintro _ w ⟨s1, s2, rfl, hs⟩
        obtain ⟨b9, o9, sc, rfl, hrk⟩ := hs.obsAt (by show 0 < 2; decide)
        clear hK
        have hK := hs.suffix 2 rfl
        refine lw_nil ⟨hK, ?_⟩
        refine @aw_take _ _ _ _ _ _ _ _ _ _ _ _ _ _ 2 _ rfl (by kernel_rfl) (by kernel_rfl) (by kernel_rfl) rfl (fun w hs => run_field1 (v := .slice (some ⟨b9, o9, none⟩) 2 sc) Tryd.underlying39 rfl Tryd.isAgg37 rfl rfl) hK ?_
        refine aw_ready [8] (by kernel_rfl) (by simp) ?_
        refine ⟨⟨_, rfl, ?_⟩, trivial⟩
        refine lw_call rfl en14 (numberE_sl hs (IntKind.i64.wrap (z.tdiv 6)) 2 (by decide)) ?_
        clear hs
        rintro _ w ⟨rfl, hs⟩
        rw [← hq]
        clear hK
        have hK := hs.suffix 2 rfl
        refine lw_nil ⟨hK, ?_⟩
        refine aw_take 9 rfl (by kernel_rfl) (by kernel_rfl) (by kernel_rfl) rfl (fun w hs => run_indexAddrK Tryd.underlying37 sz35 rfl rfl (i := q) rfl (by omega) rfl) hK ?_
        first | refine aw_take 10 rfl (by kernel_rfl) (by kernel_rfl) (by kernel_rfl) rfl (fun w hs => run_fieldAddr (o' := 0) Tryd.underlying35 rfl sz9 rfl rfl rfl) hK ?_ | refine aw_take 10 rfl (by kernel_rfl) (by kernel_rfl) (by kernel_rfl) rfl (fun w hs => run_fieldAddr Tryd.underlying35 rfl sz9 rfl rfl rfl) hK ?_
        refine aw_ready [11] (by kernel_rfl) (by simp) ?_
        refine ⟨⟨_, rfl, ?_⟩, trivial⟩
        refine lw_val rfl (run_load Tryd.underlying9 rfl rfl (hrk.cell hs (q := q) (row := obL (objNm id (kindB q) (10 * id), 0, 0)) (ob_row id hq2) (j := 0) rfl)) ?_
        clear hK
        have hK := hs.suffix 2 rfl
        refine lw_nil ⟨hK, ?_⟩
        first | refine aw_take 12 rfl (by kernel_rfl) (by kernel_rfl) (by kernel_rfl) rfl (fun w hs => run_assign (v := .string _) rfl) hK ?_
        refine aw_done (by kernel_rfl) ?_
        clear hK
        replace hs := hs.suffix 2 rfl
        refine cw_seq ?_
        refine cw_seq ?_
        refine cw_region ?_
        first | refine lw_val rfl (run_move (v := .slice _ _ _) rfl) ?_
        first | refine lw_val rfl (run_move (v := .int .i64 _) rfl) ?_
        refine lw_val rfl (run_indexAddr Tryd.underlying22 sz3 rfl rfl rfl (by omega) rfl) ?_
        refine lw_val rfl (run_load Tryd.underlying3 rfl rfl ((h1.rd _).cellAt hs (intsL_at hz))) ?_
        refine lw_val rfl (run_rem rfl rfl (by decide)) ?_
        refine lw_val rfl (run_eqi rfl rfl) ?_
        refine lw_nil ?_
        refine cw_if rfl ?_ ?_
        · intro h67
          have g67 := of_decide_eq_true h67
          have hask : askN z = bOther := by rw [askN, if_pos g67]
          have hrf : V.refers (askN z) = false := by rw [hask, hV]; exact refers_other st
          refine cw_region ?_
          first | refine lw_val rfl (run_assign (v := .string _) rfl) ?_
          refine lw_nil ?_
          refine cw_seq ?_
          refine cw_region ?_
          first | refine lw_val rfl (run_move (v := .slice _ _ _) rfl) ?_
          first | refine lw_val rfl (run_move (v := .string _) rfl) ?_
          refine lw_buildSlice hs rfl ([.string bOther]) Tryd.underlying23 zs9 rfl (by simp [Value.cells, bOther]) rfl rfl rfl ?_
          clear hs
          intro b70 w hs
          try simp only [List.set_cons_succ, List.set_cons_zero] at hs
          refine lw_append hs rfl 1 rfl Tryd.underlying23 in9 rfl rfl rfl (src_of_seq (P := Tryd.prog) Tryd.underlying23 ((Rd.cells (n := 1) (cs := [.string bOther]) 0 rfl rfl).seq hs) (fun u hu => by simp at hu; subst hu; rfl)) (by simp [textsL] at *; omega) (by simp [textsL] at *; omega) ?_
          clear hs
          intro a71 c71 w hs
          simp only [List.set_cons_succ, List.set_cons_zero] at hs
          first | refine lw_val rfl (run_assign (v := .slice _ _ _) rfl) ?_
          refine lw_nil ?_
          refine cw_seq ?_
          refine cw_region ?_
          first | refine lw_val rfl (run_move (v := .pointer (some _)) rfl) ?_ | refine lw_val rfl (run_move (v := .pointer none) rfl) ?_ | refine lw_val rfl (run_move (v := .pointer _) rfl) ?_
          first | refine lw_val rfl (run_move (v := .int .i64 _) rfl) ?_
          refine lw_call rfl en16 (state_sl (hs.arr [3, 0, 1, 2] 4 (by decide)) id) ?_
          clear hs
          rintro _ w ⟨rfl, hs⟩
          replace hs := hs.arr [1, 2, 3, 0] 4 (by decide)
          first | refine lw_val rfl (run_assign (v := .int .i64 _) rfl) ?_
          refine lw_nil ?_
          refine cw_seq ?_
          refine cw_region ?_
          first | refine lw_val rfl (run_move (v := .string _) rfl) ?_
          refine lw_val rfl (run_eqs rfl rfl) ?_
          first | refine lw_val rfl (run_move (v := .bool _) rfl) ?_
          refine lw_off rfl rfl rfl (decide_eq_true rfl) ?_
          refine lw_off rfl rfl rfl (decide_eq_true rfl) ?_
          refine lw_off rfl rfl rfl (decide_eq_true rfl) ?_
          refine lw_offU rfl rfl rfl ?_
          refine lw_offU rfl rfl rfl ?_
          refine lw_off rfl rfl rfl (decide_eq_true rfl) ?_
          first | refine lw_val rfl (run_pickT (v := .bool _) rfl (decide_eq_true rfl) rfl) ?_
          refine lw_nil ?_
          refine cw_ift rfl rfl ?_
          refine cw_region ?_
          first | refine lw_val rfl (run_move (v := .slice _ _ _) rfl) ?_
          first | refine lw_val rfl (run_move (v := .string _) rfl) ?_
          refine lw_buildSlice hs rfl ([.string bOther]) Tryd.underlying23 zs9 rfl (by simp [Value.cells, bOther]) rfl rfl rfl ?_
          clear hs
          intro b87 w hs
          try simp only [List.set_cons_succ, List.set_cons_zero] at hs
          refine lw_append hs rfl 3 rfl Tryd.underlying23 in9 rfl rfl rfl (src_of_seq (P := Tryd.prog) Tryd.underlying23 ((Rd.cells (n := 1) (cs := [.string bOther]) 0 rfl rfl).seq hs) (fun u hu => by simp at hu; subst hu; rfl)) (by simp [textsL] at *; omega) (by simp [textsL] at *; omega) ?_
          clear hs
          intro a88 c88 w hs
          simp only [List.set_cons_succ, List.set_cons_zero] at hs
          first | refine lw_val rfl (run_assign (v := .slice _ _ _) rfl) ?_
          refine lw_nil ?_
          refine cw_region ?_
          first | refine lw_val rfl (run_move (v := .int .i64 _) rfl) ?_
          refine lw_val rfl (run_add64 rfl rfl rfl (inI (by omega) (by omega))) ?_
          first | refine lw_val rfl (run_assign (v := .int .i64 _) rfl) ?_
          refine lw_nil ?_
          have hrf0 := hrf
          rw [hrf0, hask] at hnx
          have hT : N.take (i + 1) = N.take i ++ [bOther] := by rw [List.take_add_one, hNi, ← hask]; rfl
          have h3 := hs.arr [2, 3, 4] 5 (by decide)
          rw [textsL_len, textsL_len, htl] at h3
          exact ⟨(i + 1, (a71, c71), (a88, c88)), by simp only; omega, ⟨by simp only; omega, by simp only [hnx, Bool.false_eq_true, if_false, List.length_append, List.length_cons, List.length_nil]; rw [hT]; simp only [textsL_app]; exact h3⟩, ⟨by simp only [textsL_len, htl]; rfl, by simp only [hnx, Bool.false_eq_true, if_false, List.length_append, textsL_len]; rfl, rfl, trivial⟩, by repeat (first | exact Out.mix _ _ _ | refine Out.updo rfl ?_ | refine Out.upd rfl ?_ | refine Out.mixIn rfl ?_)⟩
        · intro h67
          have g67 := of_decide_eq_false h67
          have hask : askN z = objNm id (kindB q) (10 * id) := by rw [askN, if_neg g67, ← hid, ← hq]
          have hrf := orph_obj st hid6 hq2
          rw [← hask, ← hV] at hrf
          refine cw_skip ?_
          refine cw_seq ?_
          refine cw_region ?_
          first | refine lw_val rfl (run_move (v := .slice _ _ _) rfl) ?_
          first | refine lw_val rfl (run_move (v := .string _) rfl) ?_
          refine lw_buildSlice hs rfl ([.string (objNm id (kindB q) (10 * id))]) Tryd.underlying23 zs9 rfl (by simp [Value.cells]) rfl rfl rfl ?_
          clear hs
          intro b70 w hs
          try simp only [List.set_cons_succ, List.set_cons_zero] at hs
          refine lw_append hs rfl 1 rfl Tryd.underlying23 in9 rfl rfl rfl (src_of_seq (P := Tryd.prog) Tryd.underlying23 ((Rd.cells (n := 1) (cs := [.string (objNm id (kindB q) (10 * id))]) 0 rfl rfl).seq hs) (fun u hu => by simp at hu; subst hu; rfl)) (by simp [textsL] at *; omega) (by simp [textsL] at *; omega) ?_
          clear hs
          intro a71 c71 w hs
          simp only [List.set_cons_succ, List.set_cons_zero] at hs
          first | refine lw_val rfl (run_assign (v := .slice _ _ _) rfl) ?_
          refine lw_nil ?_
          refine cw_seq ?_
          refine cw_region ?_
          first | refine lw_val rfl (run_move (v := .pointer (some _)) rfl) ?_ | refine lw_val rfl (run_move (v := .pointer none) rfl) ?_ | refine lw_val rfl (run_move (v := .pointer _) rfl) ?_
          first | refine lw_val rfl (run_move (v := .int .i64 _) rfl) ?_
          refine lw_call rfl en16 (state_sl (hs.arr [3, 0, 1, 2] 4 (by decide)) id) ?_
          clear hs
          rintro _ w ⟨rfl, hs⟩
          replace hs := hs.arr [1, 2, 3, 0] 4 (by decide)
          first | refine lw_val rfl (run_assign (v := .int .i64 _) rfl) ?_
          refine lw_nil ?_
          refine cw_seq ?_
          refine cw_region ?_
          first | refine lw_val rfl (run_move (v := .string _) rfl) ?_
          refine lw_val rfl (run_eqs rfl rfl) ?_
          first | refine lw_val rfl (run_move (v := .bool _) rfl) ?_
          refine lw_on rfl rfl (decide_eq_false (other_fresh id hid6 q hq2)) ?_
          first | refine lw_val rfl (run_move (v := .int .i64 _) rfl) ?_
          refine lw_on rfl rfl (decide_eq_false (other_fresh id hid6 q hq2)) ?_
          refine lw_val rfl (run_nei rfl rfl) ?_
          refine lw_on rfl rfl (decide_eq_false (other_fresh id hid6 q hq2)) ?_
          first | refine lw_val rfl (run_move (v := .bool _) rfl) ?_
          refine lw_split (t := _) (d := 80) rfl ?_ ?_
          · intro h79
            have g79 := ne_t h79
            refine lw_on rfl rfl h79 ?_
            first | refine lw_val rfl (run_move (v := .int .i64 _) rfl) ?_
            refine lw_on rfl rfl h79 ?_
            refine lw_val rfl (run_nei rfl rfl) ?_
            refine lw_on rfl rfl (decide_eq_false (other_fresh id hid6 q hq2)) ?_
            first | refine lw_val rfl (run_pickT (v := .bool _) rfl h79 rfl) ?_
            first | refine lw_val rfl (run_pickF (v := .bool _) rfl (decide_eq_false (other_fresh id hid6 q hq2)) rfl) ?_
            refine lw_nil ?_
            refine cw_if rfl ?_ ?_
            · intro h82
              have g82 := ne_t h82
              refine cw_region ?_
              first | refine lw_val rfl (run_move (v := .slice _ _ _) rfl) ?_
              first | refine lw_val rfl (run_move (v := .string _) rfl) ?_
              refine lw_buildSlice hs rfl ([.string (objNm id (kindB q) (10 * id))]) Tryd.underlying23 zs9 rfl (by simp [Value.cells]) rfl rfl rfl ?_
              clear hs
              intro b87 w hs
              try simp only [List.set_cons_succ, List.set_cons_zero] at hs
              refine lw_append hs rfl 3 rfl Tryd.underlying23 in9 rfl rfl rfl (src_of_seq (P := Tryd.prog) Tryd.underlying23 ((Rd.cells (n := 1) (cs := [.string (objNm id (kindB q) (10 * id))]) 0 rfl rfl).seq hs) (fun u hu => by simp at hu; subst hu; rfl)) (by simp [textsL] at *; omega) (by simp [textsL] at *; omega) ?_
              clear hs
              intro a88 c88 w hs
              simp only [List.set_cons_succ, List.set_cons_zero] at hs
              first | refine lw_val rfl (run_assign (v := .slice _ _ _) rfl) ?_
              refine lw_nil ?_
              refine cw_region ?_
              first | refine lw_val rfl (run_move (v := .int .i64 _) rfl) ?_
              refine lw_val rfl (run_add64 rfl rfl rfl (inI (by omega) (by omega))) ?_
              first | refine lw_val rfl (run_assign (v := .int .i64 _) rfl) ?_
              refine lw_nil ?_
              have hrf0 : V.refers (askN z) = false := hrf.2 (fun h => h.elim g79 g82)
              rw [hrf0, hask] at hnx
              have hT : N.take (i + 1) = N.take i ++ [objNm id (kindB q) (10 * id)] := by rw [List.take_add_one, hNi, ← hask]; rfl
              have h3 := hs.arr [2, 3, 4] 5 (by decide)
              rw [textsL_len, textsL_len, htl] at h3
              exact ⟨(i + 1, (a71, c71), (a88, c88)), by simp only; omega, ⟨by simp only; omega, by simp only [hnx, Bool.false_eq_true, if_false, List.length_append, List.length_cons, List.length_nil]; rw [hT]; simp only [textsL_app]; exact h3⟩, ⟨by simp only [textsL_len, htl]; rfl, by simp only [hnx, Bool.false_eq_true, if_false, List.length_append, textsL_len]; rfl, rfl, trivial⟩, by repeat (first | exact Out.mix _ _ _ | refine Out.updo rfl ?_ | refine Out.upd rfl ?_ | refine Out.mixIn rfl ?_)⟩
            · intro h82
              have g82 := ne_f h82
              refine cw_skip ?_
              refine cw_region ?_
              first | refine lw_val rfl (run_move (v := .int .i64 _) rfl) ?_
              refine lw_val rfl (run_add64 rfl rfl rfl (inI (by omega) (by omega))) ?_
              first | refine lw_val rfl (run_assign (v := .int .i64 _) rfl) ?_
              refine lw_nil ?_
              have hr2 : V.refers (askN z) = true := by cases h : V.refers (askN z); exact absurd (.inr g82) (hrf.1 h); rfl
              rw [hr2, if_pos rfl, List.append_nil] at hnx
              have hT : N.take (i + 1) = N.take i ++ [objNm id (kindB q) (10 * id)] := by rw [List.take_add_one, hNi, ← hask]; rfl
              have h3 := hs.arr [1, 2, 3] 4 (by decide)
              rw [textsL_len, htl] at h3
              exact ⟨(i + 1, (a71, c71), t), by simp only; omega, ⟨by simp only; omega, by simp only [hnx]; rw [hT]; simp only [textsL_app]; exact h3⟩, ⟨by simp only [textsL_len, htl]; rfl, by simp only [hnx]; rfl, rfl, trivial⟩, by repeat (first | exact Out.mix _ _ _ | refine Out.updo rfl ?_ | refine Out.upd rfl ?_ | refine Out.mixIn rfl ?_)⟩
          · intro h79
            have g79 := ne_f h79
            refine lw_off rfl rfl rfl h79 ?_
            refine lw_off rfl rfl rfl h79 ?_
            refine lw_on rfl rfl (decide_eq_false (other_fresh id hid6 q hq2)) ?_
            first | refine lw_val rfl (run_pickF (v := .bool _) rfl h79 rfl) ?_
            first | refine lw_val rfl (run_pickF (v := .bool _) rfl (decide_eq_false (other_fresh id hid6 q hq2)) rfl) ?_
            refine lw_nil ?_
            refine cw_iff rfl rfl ?_
            refine cw_skip ?_
            refine cw_region ?_
            first | refine lw_val rfl (run_move (v := .int .i64 _) rfl) ?_
            refine lw_val rfl (run_add64 rfl rfl rfl (inI (by omega) (by omega))) ?_
            first | refine lw_val rfl (run_assign (v := .int .i64 _) rfl) ?_
            refine lw_nil ?_
            have hr2 : V.refers (askN z) = true := by cases h : V.refers (askN z); exact absurd (.inl g79) (hrf.1 h); rfl
            rw [hr2, if_pos rfl, List.append_nil] at hnx
            have hT : N.take (i + 1) = N.take i ++ [objNm id (kindB q) (10 * id)] := by rw [List.take_add_one, hNi, ← hask]; rfl
            have h3 := hs.arr [1, 2, 3] 4 (by decide)
            rw [textsL_len, htl] at h3
            exact ⟨(i + 1, (a71, c71), t), by simp only; omega, ⟨by simp only; omega, by simp only [hnx]; rw [hT]; simp only [textsL_app]; exact h3⟩, ⟨by simp only [textsL_len, htl]; rfl, by simp only [hnx]; rfl, rfl, trivial⟩, by repeat (first | exact Out.mix _ _ _ | refine Out.updo rfl ?_ | refine Out.upd rfl ?_ | refine Out.mixIn rfl ?_)⟩
      · intro h42
        have g42 := of_decide_eq_false h42
        obtain rfl : i = l.length := by omega
        have hNf : N.take l.length = N := by rw [← hNl, List.take_length]
        rw [hNf] at hs ⊢
        refine cw_exit rfl ?_
        refine cw_seq ?_
        refine cw_region ?_
        first | refine lw_val rfl (run_assign (v := .slice _ _ _) rfl) ?_
        refine lw_nil ?_
        replace hs := hs.addE (own_nil _)
        refine cw_seq ?_
        refine cw_seq ?_
        refine cw_region ?_
        first | refine lw_val rfl (run_assign (v := .int .i64 _) rfl) ?_
        refine lw_nil ?_
        refine cw_block ?_
        refine cw_loop (X := Nat × SA) [17, 18, 89, 90, 91, 92, 93, 94, 95, 96, 97, 98, 99, 100, 101, 102, 103, 104, 105, 106, 107] (fun q => [(17, .slice q.2.1 (looseL own_ (ids.take q.1)).length q.2.2), (18, .int .i64 (q.1 : Nat))]) (fun q w => q.1 ≤ ids.length ∧ Mem g w [own (.slice q.2.1 (looseL own_ (ids.take q.1)).length q.2.2) (intsL (looseL own_ (ids.take q.1))), own (.slice s.1 l.length s.2) (textsL N), own (.slice t.1 (orphV V N).length t.2) (textsL (orphV V N)), ViewC p V]) (fun q => ids.length - q.1) ((0, (none, 0))) ?_ ?_ ?_
        · exact ⟨rfl, rfl, trivial⟩
        · exact ⟨Nat.zero_le _, hs⟩
        clear hs
        rintro x ξ w hI
        obtain ⟨k, u⟩ := x
        obtain ⟨hk, hs⟩ := hI
        simp only at hk hs
        show cw _ _ _ _ _ _ (updL (mix _ ξ _) [(17, .slice u.1 (looseL own_ (ids.take k)).length u.2), (18, .int .i64 (k : Nat))]) w
        refine cw_seq ?_
        refine cw_seq ?_
        refine cw_region ?_
        first | refine lw_val rfl (run_move (v := .int .i64 _) rfl) ?_
        first | refine lw_val rfl (run_move (v := .slice _ _ _) rfl) ?_
        refine lw_val rfl (run_lenS Tryd.underlying22 rfl) ?_
        refine lw_val rfl (run_lss rfl rfl) ?_
        refine lw_nil ?_
        refine cw_if rfl ?_ ?_
        · intro h92
          have g92 := of_decide_eq_true h92
          obtain ⟨y, hy⟩ : ∃ y, ids[k]? = some y := ⟨_, List.getElem?_eq_getElem (by omega)⟩
          obtain ⟨b1, o1, rfl, _⟩ := (h3.rd _).cells' hs (by rw [intsL_len]; omega)
          have hnx := loose_next (o := own_) hy
          have hol := loose_len own_ (ids.take k)
          refine cw_skip ?_
          refine cw_seq ?_
          refine cw_block ?_
          refine cw_seq ?_
          refine cw_region ?_
          first | refine lw_val rfl (run_move (v := .slice _ _ _) rfl) ?_
          first | refine lw_val rfl (run_move (v := .int .i64 _) rfl) ?_
          refine lw_val rfl (run_indexAddr Tryd.underlying22 sz3 rfl rfl rfl (by omega) rfl) ?_
          refine lw_val rfl (run_load Tryd.underlying3 rfl rfl ((h3.rd _).cellAt hs (intsL_at hy))) ?_
          first | refine lw_val rfl (run_move (v := .int .i64 _) rfl) ?_
          refine lw_val rfl (run_nei rfl rfl) ?_
          refine lw_nil ?_
          refine cw_if rfl ?_ ?_
          · intro h100
            have g100 := ne_t h100
            refine cw_region ?_
            first | refine lw_val rfl (run_move (v := .slice _ _ _) rfl) ?_
            first | refine lw_val rfl (run_move (v := .slice _ _ _) rfl) ?_
            first | refine lw_val rfl (run_move (v := .int .i64 _) rfl) ?_
            refine lw_val rfl (run_indexAddr Tryd.underlying22 sz3 rfl rfl rfl (by omega) rfl) ?_
            refine lw_val rfl (run_load Tryd.underlying3 rfl rfl ((h3.rd _).cellAt hs (intsL_at hy))) ?_
            refine lw_buildSlice hs rfl ([.int .i64 y]) Tryd.underlying22 zs3 rfl (by simp [Value.cells]) rfl rfl rfl ?_
            clear hs
            intro b106 w hs
            try simp only [List.set_cons_succ, List.set_cons_zero] at hs
            refine lw_append hs rfl 1 rfl Tryd.underlying22 in3 rfl rfl rfl (src_of_seq (P := Tryd.prog) Tryd.underlying22 ((Rd.cells (n := 1) (cs := [.int .i64 y]) 0 rfl rfl).seq hs) (fun u hu => by simp at hu; subst hu; rfl)) (by simp [intsL] at *; omega) (by simp [intsL] at *; omega) ?_
            clear hs
            intro a107 c107 w hs
            simp only [List.set_cons_succ, List.set_cons_zero] at hs
            first | refine lw_val rfl (run_assign (v := .slice _ _ _) rfl) ?_
            refine lw_nil ?_
            refine cw_region ?_
            first | refine lw_val rfl (run_move (v := .int .i64 _) rfl) ?_
            refine lw_val rfl (run_add64 rfl rfl rfl (inI (by omega) (by omega))) ?_
            first | refine lw_val rfl (run_assign (v := .int .i64 _) rfl) ?_
            refine lw_nil ?_
            rw [if_neg g100] at hnx
            exact ⟨(k + 1, (a107, c107)), by simp only; omega, ⟨by simp only; omega, by simp only [hnx, intsL_app, List.length_append, List.length_cons, List.length_nil]; have h4 := hs.tail; rw [intsL_len] at h4; exact h4⟩, ⟨by simp only [hnx, List.length_append, intsL_len]; rfl, rfl, trivial⟩, by repeat (first | exact Out.mix _ _ _ | refine Out.updo rfl ?_ | refine Out.upd rfl ?_ | refine Out.mixIn rfl ?_)⟩
          · intro h100
            have g100 := ne_f h100
            refine cw_skip ?_
            refine cw_region ?_
            first | refine lw_val rfl (run_move (v := .int .i64 _) rfl) ?_
            refine lw_val rfl (run_add64 rfl rfl rfl (inI (by omega) (by omega))) ?_
            first | refine lw_val rfl (run_assign (v := .int .i64 _) rfl) ?_
            refine lw_nil ?_
            rw [if_pos g100] at hnx
            exact ⟨(k + 1, u), by simp only; omega, ⟨by simp only; omega, by simp only [hnx, List.append_nil]; exact hs⟩, ⟨by simp only [hnx, List.append_nil]; rfl, rfl, trivial⟩, by repeat (first | exact Out.mix _ _ _ | refine Out.updo rfl ?_ | refine Out.upd rfl ?_ | refine Out.mixIn rfl ?_)⟩
        · intro h92
          have g92 := of_decide_eq_false h92
          obtain rfl : k = ids.length := by omega
          rw [List.take_length] at hs ⊢
          have hol := orphV_len V N
          have hll := loose_len own_ ids
          refine cw_exit rfl ?_
          refine cw_seq ?_
          refine cw_region ?_
          first | refine lw_val rfl (run_move (v := .pointer (some _)) rfl) ?_ | refine lw_val rfl (run_move (v := .pointer none) rfl) ?_ | refine lw_val rfl (run_move (v := .pointer _) rfl) ?_
          first | refine lw_val rfl (run_move (v := .slice _ _ _) rfl) ?_
          refine lw_call rfl en10 (orph_sl (l := N) (L := [own _ _, own _ _, own _ _]) (hs.arr [3, 0, 1, 2] 4 (by decide)) (Rd.own 1 rfl) hNl.symm (by omega)) ?_
          clear hs
          rintro _ w ⟨x, rfl, hs⟩
          first | refine lw_val rfl (run_move (v := .slice _ _ _) rfl) ?_
          refine lw_call rfl en11 (sameT_sl hs (la := orphV V N) (lb := orphV V N) (hs.rdOwn 0 rfl) (hs.rdOwn 4 rfl) rfl rfl (by omega)) ?_
          clear hs
          rintro _ w ⟨rfl, hs⟩
          first | refine lw_val rfl (run_move (v := .bool _) rfl) ?_
          refine lw_on rfl rfl (decide_eq_true rfl) ?_
          first | refine lw_val rfl (run_move (v := .int .i64 _) rfl) ?_
          refine lw_on rfl rfl (decide_eq_true rfl) ?_
          first | refine lw_val rfl (run_move (v := .slice _ _ _) rfl) ?_
          refine lw_on rfl rfl (decide_eq_true rfl) ?_
          refine lw_call rfl en18 (loose_sl hs own_ (h3.rd _) rfl (by omega)) ?_
          clear hs
          rintro _ w ⟨y, rfl, hs⟩
          refine lw_on rfl rfl (decide_eq_true rfl) ?_
          first | refine lw_val rfl (run_move (v := .slice _ _ _) rfl) ?_
          refine lw_on rfl rfl (decide_eq_true rfl) ?_
          refine lw_call rfl en17 (sameI_sl hs (la := looseL own_ ids) (lb := looseL own_ ids) (hs.rdOwn 0 rfl) (hs.rdOwn 3 rfl) rfl rfl (by omega)) ?_
          clear hs
          rintro _ w ⟨rfl, hs⟩
          first | refine lw_val rfl (run_pickT (v := .bool _) rfl (decide_eq_true rfl) rfl) ?_
          first | refine lw_val rfl (run_assign (v := .bool _) rfl) ?_
          refine lw_nil ?_
          refine cw_ret ?_
          refine res1 (v := .bool _) rfl rfl ?_
          exact ⟨_, rfl, ret_b (decide_eq_true rfl), hs.nil⟩
end Go.Proofs.YtkogkokmcmallaaDoor
