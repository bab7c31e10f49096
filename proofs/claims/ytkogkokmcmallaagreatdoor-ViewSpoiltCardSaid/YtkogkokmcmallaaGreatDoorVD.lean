/- Manifests: the document's copy; what the statements let in. -/
import Derived.Test.YtkogkokmcmallaaGreatDoorVC
import Derived.Test.YtkogkokmcmallaaGreatDoorRo
namespace Go.Proofs.YtkogkokmcmallaaGreatDoor
set_option linter.all false
open Go.RowKit
attribute [local irreducible] errV
variable {g w : World} {L M : List HP} {ad : Nat → Addr} {p : Nat} {V : Vw}

theorem fill_ob1 (s : ByteArray) (a : Int) (b : Nat) : Instr.fill (fun i => some (i * 3, 3)) ((Array.range (1 * 3)).map ((Value.agg #[.string ByteArray.empty, .int .i64 0, .int .u32 0]).cells[· % (Value.agg #[.string ByteArray.empty, .int .i64 0, .int .u32 0]).cells.size]!)) [(0, .agg (obL (s, a, b)).toArray)] = some (obL (s, a, b)).toArray := by kernel_rfl
theorem copyOb_sl (hs : Mem g w L) {a : Option Addr} {n c : Nat} {l : List Ob} (hr : RdK g L 3 (.slice a n c) (l.map obL)) (hn : n = l.length) (hlen : 1 ≤ l.length ∧ l.length ≤ 1000000) : Calls Tryz.prog 208 #[.slice a n c] w (Ret fun v w' => ∃ s : SA, v = .slice s.1 l.length s.2 ∧ Mem g w' (rowK 3 (.slice s.1 l.length s.2) (l.map obL) :: L)) := by
  subst hn
  refine calls_cw Tryz.func208 rfl rfl ?_
  skip
  refine cw_seq ?_
  refine cw_region ?_
  refine lw_val rfl (run_assign (v := .slice _ _ _) rfl) ?_
  refine lw_nil ?_
  refine cw_seq ?_
  refine cw_region ?_
  refine lw_val rfl (run_move (v := .slice _ _ _) rfl) ?_
  refine lw_val rfl (run_lenS Tryz.underlying34 rfl) ?_
  refine lw_makeRows hs rfl Tryz.underlying34 in41 rfl rfl rfl (by omega) (by omega) ?_
  clear hs
  intro b7 w hs
  refine lw_val rfl (run_assign (v := .slice _ _ _) rfl) ?_
  refine lw_nil ?_
  refine cw_seq ?_
  refine cw_seq ?_
  refine cw_region ?_
  refine lw_val rfl (run_assign (v := .int .i64 _) rfl) ?_
  refine lw_nil ?_
  refine cw_block ?_
  refine cw_loop (X := Nat × SA) [3, 4, 8, 9, 10, 11, 12, 13, 14, 15, 16, 17, 18, 19, 20] (fun q => [(3, .slice q.2.1 q.1 q.2.2), (4, .int .i64 (q.1 : Nat))]) (fun q w => q.1 ≤ l.length ∧ Mem g w (rowK 3 (.slice q.2.1 q.1 q.2.2) ((l.take q.1).map obL) :: L)) (fun q => l.length - q.1) ((0, (some ⟨b7, 0, none⟩, l.length))) ?_ ?_ ?_
  · exact ⟨rfl, rfl, trivial⟩
  · exact ⟨Nat.zero_le _, hs⟩
  clear hs
  rintro x ξ w hI
  obtain ⟨k, s⟩ := x
  obtain ⟨hk, hs⟩ := hI
  simp only at hk hs
  show cw _ _ _ _ _ _ (updL (mix _ ξ _) [(3, .slice s.1 k s.2), (4, .int .i64 (k : Nat))]) w
  refine cw_seq ?_
  refine cw_seq ?_
  refine cw_region ?_
  refine lw_val rfl (run_move (v := .int .i64 _) rfl) ?_
  refine lw_val rfl (run_move (v := .slice _ _ _) rfl) ?_
  refine lw_val rfl (run_lenS Tryz.underlying34 rfl) ?_
  refine lw_val rfl (run_lss rfl rfl) ?_
  refine lw_nil ?_
  refine cw_if rfl ?_ ?_
  · intro h11
    have g11 := of_decide_eq_true h11
    obtain ⟨y, hy⟩ : ∃ y, l[k]? = some y := ⟨_, List.getElem?_eq_getElem (by omega)⟩
    obtain ⟨b9, o9, rfl⟩ := hr.cons.at hs (by rw [len_obL]; omega)
    refine cw_skip ?_
    refine cw_seq ?_
    refine cw_block ?_
    refine cw_region ?_
    refine lw_val rfl (run_move (v := .slice _ _ _) rfl) ?_
    refine lw_val rfl (run_move (v := .slice _ _ _) rfl) ?_
    refine lw_val rfl (run_move (v := .int .i64 _) rfl) ?_
    refine lw_val rfl (run_indexAddrK Tryz.underlying34 sz41 rfl rfl rfl (by omega) rfl) ?_
    refine lw_val rfl (run_loadK (cs := obL y) Tryz.underlying41 sz41 rfl (fun j v hj => hr.cons.cell hs (obL_at hy) hj)) ?_
    refine lw_buildRow hs rfl (row := obL y) Tryz.underlying34 zsOb rfl (fill_ob1 y.1 y.2.1 y.2.2) (by decide) (by decide) ?_
    clear hs
    intro b19 w hs
    refine lw_appendRow hs rfl 1 0 rfl rfl Tryz.underlying34 Tryz.underlying34 in41 rfl rfl (by rfl) rfl rfl (by simp only [List.length_map, List.length_take]; omega) (by simp only [List.length_map, List.length_take]; omega) ?_
    clear hs
    intro a20 c20 w hs
    simp only [List.set_cons_succ, List.set_cons_zero] at hs
    refine lw_val rfl (run_assign (v := .slice _ _ _) rfl) ?_
    refine lw_nil ?_
    refine cw_region ?_
    refine lw_val rfl (run_move (v := .int .i64 _) rfl) ?_
    refine lw_val rfl (run_add64 rfl rfl rfl (inI (by omega) (by omega))) ?_
    refine lw_val rfl (run_assign (v := .int .i64 _) rfl) ?_
    refine lw_nil ?_
    have hl : ((l.take k).map obL).length = k := by rw [List.length_map, List.length_take]; omega
    exact ⟨(k + 1, (a20, c20)), by simp only; omega, ⟨by simp only; omega, by simp only [List.take_add_one, hy, Option.toList, List.map_append, List.map_cons, List.map_nil]; have h3 := hs.tail; rw [hl] at h3; exact h3⟩, ⟨by rw [hl]; rfl, rfl, trivial⟩, by repeat (first | exact Out.mix _ _ _ | refine Out.updo rfl ?_ | refine Out.upd rfl ?_ | refine Out.mixIn rfl ?_)⟩
  · intro h11
    have g11 := of_decide_eq_false h11
    refine cw_exit rfl ?_
    refine cw_seq ?_
    refine cw_region ?_
    refine lw_val rfl (run_move (v := .slice _ _ _) rfl) ?_
    refine lw_val rfl (run_assign (v := .slice _ _ _) rfl) ?_
    refine lw_nil ?_
    refine cw_ret ?_
    refine res1 (v := .slice _ _ _) rfl rfl ?_
    have e : k = l.length := by omega
    subst e
    rw [List.take_length] at hs
    exact ⟨_, rfl, s, rfl, hs⟩
theorem rmani_sl (hs : Mem g w L) {m : Mf} {e o : SA} (hm : MfR g L m e o) (h1 : 1 ≤ m.eps.length ∧ m.eps.length ≤ 1000000) (h2 : 1 ≤ m.obs.length ∧ m.obs.length ≤ 1000000) : Calls Tryz.prog 132 #[.agg (mfL m e o).toArray] w (Ret fun v w' => ∃ s1 s2 : SA, v = .agg (mfL m s1 s2).toArray ∧ Mem g w' (mfP m s1 s2 ++ L)) := by
  refine calls_cw Tryz.func132 rfl rfl ?_
  skip
  refine cw_seq ?_
  refine cw_region ?_
  refine lw_box (v := .agg _) hs rfl rfl ?_
  clear hs
  intro b1 w hs
  try simp only [List.set_cons_succ, List.set_cons_zero] at hs
  refine lw_alloc hs rfl ze36 ?_
  clear hs
  intro b2 w hs
  try simp only [List.set_cons_succ, List.set_cons_zero] at hs
  refine lw_nil ?_
  refine cw_seq ?_
  refine cw_drawS mixes hs.tail ?_
  intro w tr hK
  replace hs := tr _ hs
  clear tr
  refine aw_take 0 rfl (by kernel_rfl) (by kernel_rfl) (by kernel_rfl) rfl (fun w hs => run_fieldAddr (o' := 0) Tryz.underlying36 rfl sz3 rfl rfl rfl) hK ?_
  refine aw_take 1 rfl (by kernel_rfl) (by kernel_rfl) (by kernel_rfl) rfl (fun w hs => run_load Tryz.underlying3 rfl rfl (hs.cellAt 0 rfl rfl)) hK ?_
  refine aw_take 2 rfl (by kernel_rfl) (by kernel_rfl) (by kernel_rfl) rfl (fun w hs => run_fieldAddr (o' := 1) Tryz.underlying36 rfl sz2 rfl rfl rfl) hK ?_
  refine aw_take 3 rfl (by kernel_rfl) (by kernel_rfl) (by kernel_rfl) rfl (fun w hs => run_load Tryz.underlying2 rfl rfl (hs.cellAt 0 rfl rfl)) hK ?_
  refine aw_take 4 rfl (by kernel_rfl) (by kernel_rfl) (by kernel_rfl) rfl (fun w hs => run_fieldAddr (o' := 2) Tryz.underlying36 rfl sz2 rfl rfl rfl) hK ?_
  refine aw_take 5 rfl (by kernel_rfl) (by kernel_rfl) (by kernel_rfl) rfl (fun w hs => run_load Tryz.underlying2 rfl rfl (hs.cellAt 0 rfl rfl)) hK ?_
  refine aw_take 6 rfl (by kernel_rfl) (by kernel_rfl) (by kernel_rfl) rfl (fun w hs => run_fieldAddr (o' := 3) Tryz.underlying36 rfl sz2 rfl rfl rfl) hK ?_
  refine aw_take 7 rfl (by kernel_rfl) (by kernel_rfl) (by kernel_rfl) rfl (fun w hs => run_load Tryz.underlying2 rfl rfl (hs.cellAt 0 rfl rfl)) hK ?_
  refine aw_take 8 rfl (by kernel_rfl) (by kernel_rfl) (by kernel_rfl) rfl (fun w hs => run_fieldAddr (o' := 4) Tryz.underlying36 rfl sz33 rfl rfl rfl) hK ?_
  refine aw_take 9 rfl (by kernel_rfl) (by kernel_rfl) (by kernel_rfl) rfl (fun w hs => run_load Tryz.underlying33 rfl rfl (hs.cellAt 0 rfl rfl)) hK ?_
  refine aw_take 11 rfl (by kernel_rfl) (by kernel_rfl) (by kernel_rfl) rfl (fun w hs => run_fieldAddr (o' := 5) Tryz.underlying36 rfl sz34 rfl rfl rfl) hK ?_
  refine aw_take 12 rfl (by kernel_rfl) (by kernel_rfl) (by kernel_rfl) rfl (fun w hs => run_load Tryz.underlying34 rfl rfl (hs.cellAt 0 rfl rfl)) hK ?_
  refine aw_ready [10] (by kernel_rfl) (by simp) ?_
  refine ⟨⟨_, rfl, ?_⟩, trivial⟩
  refine lw_call rfl en180 (copyPr_sl hs hm.eps.cons.cons rfl h1) ?_
  clear hs
  rintro _ w ⟨s1, rfl, hs⟩
  clear hK
  have hK := (hs.drop 1).tail
  refine lw_nil ⟨hK, ?_⟩
  refine aw_ready [13] (by kernel_rfl) (by simp) ?_
  refine ⟨⟨_, rfl, ?_⟩, trivial⟩
  refine lw_call rfl en208 (copyOb_sl hs hm.obs.cons.cons.cons rfl h2) ?_
  clear hs
  rintro _ w ⟨s2, rfl, hs⟩
  clear hK
  have hK := ((hs.drop 2).tail).tail
  refine lw_nil ⟨hK, ?_⟩
  refine aw_take 14 rfl (by kernel_rfl) (by kernel_rfl) (by kernel_rfl) rfl (fun w hs => run_buildF ([.int .i64 m.id, .int .i64 m.base, .int .i64 m.fin, .int .i64 m.time, .slice s1.1 m.eps.length s1.2, .slice s2.1 m.obs.length s2.2]) Tryz.underlying36 ze36 pl36 rfl (by simp [Value.cells]) rfl rfl) hK ?_
  refine aw_ready [15] (by kernel_rfl) (by simp) ?_
  refine ⟨⟨_, rfl, ?_⟩, trivial⟩
  refine lw_storeRow hs 2 rfl rfl rfl sz36 rfl rfl ?_
  clear hs
  intro w hs
  try simp only [List.set_cons_succ, List.set_cons_zero] at hs
  clear hK
  have hK := ((hs.drop 2).tail).tail
  refine lw_nil ⟨hK, ?_⟩
  refine aw_done (by kernel_rfl) ?_
  clear hK
  refine cw_ret ?_
  refine resG [(.cell 2 36, .agg _)] rfl ⟨⟨_, rfl, res_row hs 2 rfl Tryz.underlying36 sz36⟩, trivial⟩ ?_
  exact ⟨_, rfl, s1, s2, rfl, hs.arr [1, 0] 4 (by decide)⟩
theorem wmani_sl (hs : Mem g w L) {m : Mf} {e o : SA} (hm : MfR g L m e o) : Calls Tryz.prog 35 #[.agg (mfL m e o).toArray] w (Ret fun v w' => ∃ b, v = .bool b ∧ (b = true → m.obs.length ≤ 12) ∧ Mem g w' L) := by
  refine calls_cw Tryz.func35 rfl rfl ?_
  skip
  refine cw_seq ?_
  refine cw_region ?_
  refine lw_box (v := .agg _) hs rfl rfl ?_
  clear hs
  intro b1 w hs
  try simp only [List.set_cons_succ, List.set_cons_zero] at hs
  refine lw_val rfl (run_assign (v := .bool _) rfl) ?_
  refine lw_nil ?_
  refine cw_seq ?_
  refine cw_seq ?_
  refine cw_region ?_
  refine lw_val rfl (run_fieldAddr (o' := 4) Tryz.underlying36 rfl sz33 rfl rfl rfl) ?_
  refine lw_val rfl (run_load Tryz.underlying33 rfl rfl (hs.cellAt 0 rfl rfl)) ?_
  refine lw_val rfl (run_lenS Tryz.underlying33 rfl) ?_
  refine lw_val rfl (run_gtr rfl rfl) ?_
  refine lw_val rfl (run_move (v := .bool _) rfl) ?_
  refine lw_split (t := _) (d := 8) rfl ?_ ?_
  · intro h7
    have g7 := of_decide_eq_true h7
    refine lw_off rfl rfl rfl h7 ?_
    refine lw_off rfl rfl rfl h7 ?_
    refine lw_off rfl rfl rfl h7 ?_
    refine lw_off rfl rfl rfl h7 ?_
    refine lw_val rfl (run_pickT (v := .bool _) rfl h7 rfl) ?_
    refine lw_nil ?_
    refine cw_ift rfl rfl ?_
    refine cw_seq ?_
    refine cw_region ?_
    refine lw_val rfl (run_assign (v := .bool _) rfl) ?_
    refine lw_nil ?_
    refine cw_ret ?_
    refine res1 (v := .bool _) rfl rfl ?_
    exact ⟨_, rfl, false, rfl, (fun h => by cases h), hs.tail⟩
  · intro h7
    have g7 := of_decide_eq_false h7
    refine lw_on rfl rfl h7 ?_
    refine lw_val rfl (run_fieldAddr (o' := 5) Tryz.underlying36 rfl sz34 rfl rfl rfl) ?_
    refine lw_on rfl rfl h7 ?_
    refine lw_val rfl (run_load Tryz.underlying34 rfl rfl (hs.cellAt 0 rfl rfl)) ?_
    refine lw_on rfl rfl h7 ?_
    refine lw_val rfl (run_lenS Tryz.underlying34 rfl) ?_
    refine lw_on rfl rfl h7 ?_
    refine lw_val rfl (run_gtr rfl rfl) ?_
    refine lw_val rfl (run_pickF (v := .bool _) rfl h7 rfl) ?_
    refine lw_nil ?_
    refine cw_if rfl ?_ ?_
    · intro h12
      have g12 := of_decide_eq_true h12
      refine cw_seq ?_
      refine cw_region ?_
      refine lw_val rfl (run_assign (v := .bool _) rfl) ?_
      refine lw_nil ?_
      refine cw_ret ?_
      refine res1 (v := .bool _) rfl rfl ?_
      exact ⟨_, rfl, false, rfl, (fun h => by cases h), hs.tail⟩
    · intro h12
      have g12 := of_decide_eq_false h12
      refine cw_skip ?_
      refine cw_seq ?_
      refine cw_seq ?_
      refine cw_region ?_
      refine lw_val rfl (run_assign (v := .int .i64 _) rfl) ?_
      refine lw_nil ?_
      refine cw_block ?_
      refine cw_loop (X := Nat) [2, 3, 14, 15, 16, 17, 18, 19, 20, 21, 22, 23, 24, 25, 26, 27, 28] (fun k => [(3, .int .i64 (k : Nat))]) (fun k w => k ≤ m.obs.length ∧ Mem g w (cells b1 (mfL m e o) 36 :: L)) (fun k => m.obs.length - k) (0) ?_ ?_ ?_
      · exact ⟨rfl, trivial⟩
      · exact ⟨Nat.zero_le _, hs⟩
      clear hs
      rintro x ξ w hI
      obtain ⟨hk, hs⟩ := hI
      refine cw_seq ?_
      refine cw_seq ?_
      refine cw_region ?_
      refine lw_val rfl (run_move (v := .int .i64 _) rfl) ?_
      refine lw_val rfl (run_fieldAddr (o' := 5) Tryz.underlying36 rfl sz34 rfl rfl rfl) ?_
      refine lw_val rfl (run_load Tryz.underlying34 rfl rfl (hs.cellAt 0 rfl rfl)) ?_
      refine lw_val rfl (run_lenS Tryz.underlying34 rfl) ?_
      refine lw_val rfl (run_lss rfl rfl) ?_
      refine lw_nil ?_
      refine cw_if rfl ?_ ?_
      · intro h18
        have g18 := of_decide_eq_true h18
        obtain ⟨y, hy⟩ : ∃ y, m.obs[x]? = some y := ⟨_, List.getElem?_eq_getElem (by omega)⟩
        obtain ⟨b9, o9, hb9⟩ := hm.obs.cons.at hs (by rw [len_obL]; omega)
        obtain ⟨oa, oc⟩ := o
        simp only at hb9
        subst hb9
        refine cw_skip ?_
        refine cw_seq ?_
        refine cw_block ?_
        refine cw_seq ?_
        refine cw_region ?_
        refine lw_val rfl (run_fieldAddr (o' := 5) Tryz.underlying36 rfl sz34 rfl rfl rfl) ?_
        refine lw_val rfl (run_load Tryz.underlying34 rfl rfl (hs.cellAt 0 rfl rfl)) ?_
        refine lw_val rfl (run_move (v := .int .i64 _) rfl) ?_
        refine lw_val rfl (run_indexAddrK Tryz.underlying34 sz41 rfl rfl rfl (by omega) rfl) ?_
        refine lw_val rfl (run_fieldAddr Tryz.underlying41 rfl sz9 rfl rfl rfl) ?_
        refine lw_val rfl (run_load Tryz.underlying9 rfl rfl (hm.obs.cons.cell hs (obL_at hy) (j := 0) rfl)) ?_
        refine lw_val rfl (run_lenT Tryz.underlying9 rfl) ?_
        refine lw_val rfl (run_gtr rfl rfl) ?_
        refine lw_nil ?_
        refine cw_if rfl ?_ ?_
        · intro h28
          have g28 := of_decide_eq_true h28
          refine cw_seq ?_
          refine cw_region ?_
          refine lw_val rfl (run_assign (v := .bool _) rfl) ?_
          refine lw_nil ?_
          refine cw_ret ?_
          refine res1 (v := .bool _) rfl rfl ?_
          exact ⟨_, rfl, false, rfl, (fun h => by cases h), hs.tail⟩
        · intro h28
          have g28 := of_decide_eq_false h28
          refine cw_skip ?_
          refine cw_region ?_
          refine lw_val rfl (run_move (v := .int .i64 _) rfl) ?_
          refine lw_val rfl (run_add64 rfl rfl rfl (inI (by omega) (by omega))) ?_
          refine lw_val rfl (run_assign (v := .int .i64 _) rfl) ?_
          refine lw_nil ?_
          exact ⟨x + 1, by omega, ⟨by omega, hs⟩, ⟨rfl, trivial⟩, by repeat (first | exact Out.mix _ _ _ | refine Out.updo rfl ?_ | refine Out.upd rfl ?_ | refine Out.mixIn rfl ?_)⟩
      · intro h18
        have g18 := of_decide_eq_false h18
        refine cw_exit rfl ?_
        refine cw_seq ?_
        refine cw_region ?_
        refine lw_val rfl (run_assign (v := .bool _) rfl) ?_
        refine lw_nil ?_
        refine cw_ret ?_
        refine res1 (v := .bool _) rfl rfl ?_
        exact ⟨_, rfl, true, rfl, (fun _ => by omega), hs.tail⟩
end Go.Proofs.YtkogkokmcmallaaGreatDoor
