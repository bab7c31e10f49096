/- The document's Make; the manifests of the statements. -/
import Derived.Test.YtkogkokmcmallaaGreatDoorRo
namespace Go.Proofs.YtkogkokmcmallaaGreatDoor
set_option linter.all false
open Go.RowKit
attribute [local irreducible] errV
variable {g w : World} {L M : List HP} {ad : Nat → Addr} {p : Nat}

def mkM (id base : Nat) (fin : Int) (l : List Pr) : Mf := ⟨id, base, fin, 0, l, [(objNm id bData base, 0, 0), (objNm id bMarks base, 0, 0)]⟩
theorem crc_none : crcMore 0 [] = 0 := by decide +kernel
set_option maxRecDepth 100000 in
set_option maxHeartbeats 2000000 in
theorem make_sl (hs : Mem g w L) {id base : Nat} {fin : Int} {a : Option Addr} {n c : Nat} {l : List Pr} (hr : RdK g L 2 (.slice a n c) (l.map prL)) (hn : n = l.length) (hlen : 1 ≤ l.length ∧ l.length ≤ 1000000) (hid : id ≤ 2147483647) (hb : base ≤ 1099511627776) (hF : mfF (mkM id base fin l) = (0, none)) :
    Calls Tryz.prog 90 #[.int .i64 id, .int .i64 base, .int .i64 fin, .int .i64 0, .slice a n c, .slice none 0 0, .slice none 0 0] w (Ret fun v w' => ∃ s1 s2 : SA, v = .tuple #[.agg (mfL (mkM id base fin l) s1 s2).toArray, fltV (0, none)] ∧ Mem g w' (mfP (mkM id base fin l) s1 s2 ++ L)) := by
  subst hn
  refine calls_cw Tryz.func90 rfl rfl ?_
  skip
  refine cw_seq ?_
  refine cw_region ?_
  refine lw_alloc hs rfl ze36 ?_
  clear hs
  intro b14 w hs
  try simp only [List.set_cons_succ, List.set_cons_zero] at hs
  refine lw_alloc hs rfl ze79 ?_
  clear hs
  intro b15 w hs
  try simp only [List.set_cons_succ, List.set_cons_zero] at hs
  refine lw_nil ?_
  refine cw_seq ?_
  refine cw_region ?_
  refine lw_val rfl (run_move (v := .int .i64 _) rfl) ?_
  refine lw_val rfl (run_move (v := .int .i64 _) rfl) ?_
  refine lw_val rfl (run_move (v := .int .i64 _) rfl) ?_
  refine lw_val rfl (run_move (v := .int .i64 _) rfl) ?_
  refine lw_val rfl (run_move (v := .slice _ _ _) rfl) ?_
  refine lw_call rfl en180 (copyPr_sl hs hr.cons.cons rfl hlen) ?_
  clear hs
  rintro _ w ⟨s1, rfl, hs⟩
  refine lw_val rfl (run_build (cs := [.int .i64 id, .int .i64 base, .int .i64 fin, .int .i64 0, .slice s1.1 l.length s1.2, .slice none 0 0]) Tryz.underlying36 ze36 pl36 rfl) ?_
  refine lw_alloc hs rfl ze36 ?_
  clear hs
  intro b16 w hs
  try simp only [List.set_cons_succ, List.set_cons_zero] at hs
  refine lw_storeRow hs 0 rfl rfl rfl sz36 rfl rfl ?_
  clear hs
  intro w hs
  try simp only [List.set_cons_succ, List.set_cons_zero] at hs
  refine lw_nil ?_
  refine cw_seq ?_
  refine cw_region ?_
  refine lw_val rfl (run_move (v := .int .i64 _) rfl) ?_
  refine lw_val rfl (run_move (v := .int .i64 _) rfl) ?_
  refine lw_call rfl en181 (objNm_sl hs id base bData hid hb (by decide) (by decide)) ?_
  clear hs
  rintro _ w ⟨rfl, hs⟩
  refine lw_val rfl (run_move (v := .slice _ _ _) rfl) ?_
  refine lw_val rfl (run_lenS Tryz.underlying64 rfl) ?_
  refine lw_val rfl (run_move (v := .slice _ _ _) rfl) ?_
  refine lw_call rfl en155 (hs.callsE (refSum_any (w := w) (b := .slice none 0 0) (l := []) (seqV.nil w) (by simp))) ?_
  clear hs
  rintro _ w ⟨rfl, hs⟩
  rw [crc_none]
  refine lw_val rfl (run_buildF ([.string (objNm id bData base), .int .i64 0, .int .u32 0]) Tryz.underlying41 ze41 pl41 rfl (by simp [Value.cells]) rfl rfl) ?_
  refine lw_val rfl (run_move (v := .int .i64 _) rfl) ?_
  refine lw_val rfl (run_move (v := .int .i64 _) rfl) ?_
  refine lw_call rfl en181 (objNm_sl hs id base bMarks hid hb (by decide) (by decide)) ?_
  clear hs
  rintro _ w ⟨rfl, hs⟩
  refine lw_val rfl (run_move (v := .slice _ _ _) rfl) ?_
  refine lw_val rfl (run_lenS Tryz.underlying64 rfl) ?_
  refine lw_val rfl (run_move (v := .slice _ _ _) rfl) ?_
  refine lw_call rfl en155 (hs.callsE (refSum_any (w := w) (b := .slice none 0 0) (l := []) (seqV.nil w) (by simp))) ?_
  clear hs
  rintro _ w ⟨rfl, hs⟩
  rw [crc_none]
  refine lw_val rfl (run_buildF ([.string (objNm id bMarks base), .int .i64 0, .int .u32 0]) Tryz.underlying41 ze41 pl41 rfl (by simp [Value.cells]) rfl rfl) ?_
  refine lw_build2 hs rfl (r1 := obL (objNm id bData base, 0, 0)) (r2 := obL (objNm id bMarks base, 0, 0)) Tryz.underlying34 zsOb rfl rfl (fill_ob _ _ 0 0 0 0) (by decide) (by decide) ?_
  clear hs
  intro b41 w hs
  replace hs := hs.asRows 0 rfl (m := 2) (k := 3) (rows := [obL (objNm id bData base, 0, 0), obL (objNm id bMarks base, 0, 0)]) rfl rfl (obL_rows [(objNm id bData base, 0, 0), (objNm id bMarks base, 0, 0)])
  simp only [List.set_cons_zero] at hs
  refine lw_val rfl (run_fieldAddr (o' := 5) Tryz.underlying36 rfl sz34 rfl rfl rfl) ?_
  refine lw_store (v := .slice _ _ _) hs 1 rfl sz34 rfl rfl rfl rfl ?_
  clear hs
  intro w hs
  try simp only [List.set_cons_succ, List.set_cons_zero] at hs
  refine lw_nil ?_
  refine cw_seq ?_
  refine cw_region ?_
  refine lw_val rfl (run_loadRow hs 1 rfl Tryz.underlying36 sz36 rfl) ?_
  refine lw_call rfl en128 (rManifest_sl (m := mkM id base fin l) (e := s1) (o := (some ⟨b41, 0, none⟩, 2)) hs (MfR.own 2 0 rfl rfl) (by simp [mkM])) ?_
  clear hs
  rintro _ w ⟨rfl, hs⟩
  rw [hF]
  refine lw_alloc hs rfl ze79 ?_
  clear hs
  intro b17 w hs
  try simp only [List.set_cons_succ, List.set_cons_zero] at hs
  refine lw_storeRow hs 0 rfl rfl rfl sz79 rfl rfl ?_
  clear hs
  intro w hs
  try simp only [List.set_cons_succ, List.set_cons_zero] at hs
  refine lw_nil ?_
  refine cw_seq ?_
  refine cw_seq ?_
  refine cw_region ?_
  refine lw_val rfl (run_fieldAddr (o' := 0) Tryz.underlying79 rfl sz3 rfl rfl rfl) ?_
  refine lw_val rfl (run_load Tryz.underlying3 rfl rfl (hs.cellAt 0 rfl rfl)) ?_
  refine lw_val rfl (run_nei rfl rfl) ?_
  refine lw_nil ?_
  refine cw_iff rfl (rfl) ?_
  refine cw_skip ?_
  refine cw_seq ?_
  refine cw_drawS mixes ((hs.drop 5).drop 4) ?_
  intro w tr hK
  replace hs := tr _ hs
  clear tr
  refine aw_take 0 rfl (by kernel_rfl) (by kernel_rfl) (by kernel_rfl) rfl (fun w hs => run_loadRow hs 2 rfl Tryz.underlying36 sz36 rfl) hK ?_
  refine aw_ready [1] (by kernel_rfl) (by simp) ?_
  refine ⟨⟨_, rfl, ?_⟩, trivial⟩
  refine lw_call rfl en133 (none_sl hs) ?_
  clear hs
  rintro _ w ⟨rfl, hs⟩
  clear hK
  have hK := (hs.drop 5).drop 4
  refine lw_nil ⟨hK, ?_⟩
  refine aw_ready [2] (by kernel_rfl) (by simp) ?_
  refine ⟨⟨_, rfl, ?_⟩, trivial⟩
  refine lw_storeRow hs 5 rfl rfl rfl sz36 rfl rfl ?_
  clear hs
  intro w hs
  try simp only [List.set_cons_succ, List.set_cons_zero] at hs
  clear hK
  have hK := (hs.drop 5).drop 4
  refine lw_nil ⟨hK, ?_⟩
  refine aw_ready [3] (by kernel_rfl) (by simp) ?_
  refine ⟨⟨_, rfl, ?_⟩, trivial⟩
  refine lw_storeRow hs 4 rfl rfl rfl sz79 rfl rfl ?_
  clear hs
  intro w hs
  try simp only [List.set_cons_succ, List.set_cons_zero] at hs
  clear hK
  have hK := (hs.drop 5).drop 4
  refine lw_nil ⟨hK, ?_⟩
  refine aw_done (by kernel_rfl) ?_
  clear hK
  refine cw_ret ?_
  refine resG [(.cell 14 36, .agg _), (.cell 15 79, .agg _)] rfl ⟨⟨_, rfl, res_row hs 5 rfl Tryz.underlying36 sz36⟩, ⟨_, rfl, res_row hs 4 rfl Tryz.underlying79 sz79⟩, trivial⟩ ?_
  exact ⟨_, rfl, s1, (some ⟨b41, 0, none⟩, 2), rfl, hs.arr [3, 1] 6 (by decide)⟩
theorem one23_sl (hs : Mem g w L) (id : Nat) (hid : id < 6) : Calls Tryz.prog 13 #[.int .i64 id] w (Ret fun v w' => ∃ s1 s2 : SA, v = .agg (mfL (oneM id (10 * id)) s1 s2).toArray ∧ Mem g w' (mfP (oneM id (10 * id)) s1 s2 ++ L)) := by
  refine calls_cw Tryz.func13 rfl rfl ?_
  skip
  refine cw_seq ?_
  refine cw_region ?_
  refine lw_alloc hs rfl ze36 ?_
  clear hs
  intro b2 w hs
  try simp only [List.set_cons_succ, List.set_cons_zero] at hs
  refine lw_nil ?_
  refine cw_seq ?_
  refine cw_region ?_
  refine lw_val rfl (run_move (v := .int .i64 _) rfl) ?_
  refine lw_val rfl (run_move (v := .int .i64 _) rfl) ?_
  refine lw_val rfl (run_mul64 rfl rfl (c := ((10 * id : Nat) : Int)) (by omega) (inI (by omega) (by omega))) ?_
  refine lw_val rfl (run_move (v := .int .i64 _) rfl) ?_
  refine lw_val rfl (run_mul64 rfl rfl (c := ((10 * id : Nat) : Int)) (by omega) (inI (by omega) (by omega))) ?_
  refine lw_val rfl (run_add64 rfl rfl (c := ((10 * id : Nat) : Int) + 5) (by omega) (inI (by omega) (by omega))) ?_
  refine lw_val rfl (run_move (v := .int .i64 _) rfl) ?_
  refine lw_val rfl (run_mul64 rfl rfl (c := ((10 * id : Nat) : Int)) (by omega) (inI (by omega) (by omega))) ?_
  refine lw_val rfl (run_buildF ([.int .i64 1, .int .i64 ((10 * id : Nat) : Int)]) Tryz.underlying141 ze141 pl141 rfl (by simp [Value.cells]) rfl rfl) ?_
  refine lw_buildRow hs rfl (row := prL (1, ((10 * id : Nat) : Int))) Tryz.underlying33 zsPr rfl (fill_pr _ _) (by decide) (by decide) ?_
  clear hs
  intro b15 w hs
  refine lw_call rfl en90 (make_sl hs (id := id) (base := 10 * id) (fin := ((10 * id : Nat) : Int) + 5) (l := [(1, ((10 * id : Nat) : Int))]) (RdK.one 0 rfl rfl) rfl (by simp) (by omega) (by omega) (one23 id hid)) ?_
  clear hs
  rintro _ w ⟨s1, s2, rfl, hs⟩
  refine lw_val rfl (run_move (v := .tuple _) rfl) ?_
  refine lw_val rfl (run_extract (v := .agg _) rfl rfl) ?_
  refine lw_val rfl (run_extract (v := .agg _) rfl rfl) ?_
  refine lw_alloc hs rfl ze36 ?_
  clear hs
  intro b3 w hs
  try simp only [List.set_cons_succ, List.set_cons_zero] at hs
  refine lw_alloc hs rfl ze79 ?_
  clear hs
  intro b4 w hs
  try simp only [List.set_cons_succ, List.set_cons_zero] at hs
  refine lw_storeRow hs 1 rfl rfl rfl sz36 rfl rfl ?_
  clear hs
  intro w hs
  try simp only [List.set_cons_succ, List.set_cons_zero] at hs
  refine lw_storeRow hs 0 rfl rfl rfl sz79 rfl rfl ?_
  clear hs
  intro w hs
  try simp only [List.set_cons_succ, List.set_cons_zero] at hs
  refine lw_nil ?_
  refine cw_seq ?_
  refine cw_region ?_
  refine lw_val rfl (run_loadRow hs 1 rfl Tryz.underlying36 sz36 rfl) ?_
  refine lw_storeRow hs 5 rfl rfl rfl sz36 rfl rfl ?_
  clear hs
  intro w hs
  try simp only [List.set_cons_succ, List.set_cons_zero] at hs
  refine lw_nil ?_
  refine cw_ret ?_
  refine resG [(.cell 2 36, .agg _)] rfl ⟨⟨_, rfl, res_row hs 5 rfl Tryz.underlying36 sz36⟩, trivial⟩ ?_
  exact ⟨_, rfl, s1, s2, rfl, hs.arr [2, 3] 6 (by decide)⟩
theorem one16_sl (hs : Mem g w L) (id base : Nat) (hid : id ≤ 1000000) (hb : base ≤ 1000000) (hF : mfF (oneM id base) = (0, none)) : Calls Tryz.prog 30 #[.int .i64 id, .int .i64 base] w (Ret fun v w' => ∃ s1 s2 : SA, v = .agg (mfL (oneM id base) s1 s2).toArray ∧ Mem g w' (mfP (oneM id base) s1 s2 ++ L)) := by
  refine calls_cw Tryz.func30 rfl rfl ?_
  skip
  refine cw_seq ?_
  refine cw_region ?_
  refine lw_alloc hs rfl ze36 ?_
  clear hs
  intro b4 w hs
  try simp only [List.set_cons_succ, List.set_cons_zero] at hs
  refine lw_nil ?_
  refine cw_seq ?_
  refine cw_region ?_
  refine lw_val rfl (run_move (v := .int .i64 _) rfl) ?_
  refine lw_val rfl (run_move (v := .int .i64 _) rfl) ?_
  refine lw_val rfl (run_move (v := .int .i64 _) rfl) ?_
  refine lw_val rfl (run_add64 rfl rfl (c := (base : Int) + 5) (by omega) (inI (by omega) (by omega))) ?_
  refine lw_val rfl (run_move (v := .int .i64 _) rfl) ?_
  refine lw_val rfl (run_buildF ([.int .i64 1, .int .i64 (base : Int)]) Tryz.underlying141 ze141 pl141 rfl (by simp [Value.cells]) rfl rfl) ?_
  refine lw_buildRow hs rfl (row := prL (1, (base : Int))) Tryz.underlying33 zsPr rfl (fill_pr _ _) (by decide) (by decide) ?_
  clear hs
  intro b14 w hs
  refine lw_call rfl en90 (make_sl hs (id := id) (base := base) (fin := (base : Int) + 5) (l := [(1, (base : Int))]) (RdK.one 0 rfl rfl) rfl (by simp) (by omega) (by omega) hF) ?_
  clear hs
  rintro _ w ⟨s1, s2, rfl, hs⟩
  refine lw_val rfl (run_move (v := .tuple _) rfl) ?_
  refine lw_val rfl (run_extract (v := .agg _) rfl rfl) ?_
  refine lw_val rfl (run_extract (v := .agg _) rfl rfl) ?_
  refine lw_alloc hs rfl ze36 ?_
  clear hs
  intro b5 w hs
  try simp only [List.set_cons_succ, List.set_cons_zero] at hs
  refine lw_alloc hs rfl ze79 ?_
  clear hs
  intro b6 w hs
  try simp only [List.set_cons_succ, List.set_cons_zero] at hs
  refine lw_storeRow hs 1 rfl rfl rfl sz36 rfl rfl ?_
  clear hs
  intro w hs
  try simp only [List.set_cons_succ, List.set_cons_zero] at hs
  refine lw_storeRow hs 0 rfl rfl rfl sz79 rfl rfl ?_
  clear hs
  intro w hs
  try simp only [List.set_cons_succ, List.set_cons_zero] at hs
  refine lw_nil ?_
  refine cw_seq ?_
  refine cw_region ?_
  refine lw_val rfl (run_loadRow hs 1 rfl Tryz.underlying36 sz36 rfl) ?_
  refine lw_storeRow hs 5 rfl rfl rfl sz36 rfl rfl ?_
  clear hs
  intro w hs
  try simp only [List.set_cons_succ, List.set_cons_zero] at hs
  refine lw_nil ?_
  refine cw_ret ?_
  refine resG [(.cell 4 36, .agg _)] rfl ⟨⟨_, rfl, res_row hs 5 rfl Tryz.underlying36 sz36⟩, trivial⟩ ?_
  exact ⟨_, rfl, s1, s2, rfl, hs.arr [2, 3] 6 (by decide)⟩
end Go.Proofs.YtkogkokmcmallaaGreatDoor
