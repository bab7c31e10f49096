/- part.Step, over chunks. -/
import Derived.Test.YtjiigajekminaaaDoorCT
import Derived.Test.YtjiigajekminaaaDoorPM
namespace Go.Proofs.YtjiigajekminaaaDoor
set_option linter.all false
open Go.RowKit
attribute [local irreducible] errV
variable {g w : World} {L M : List HP} {ad : Nat → Addr} {p q : Nat} {st : St}

/-- A plan's numbers are as Make has them. -/
structure Fair (size each parts : Nat) : Prop where
  h1 : 1 ≤ each
  h2 : each ≤ 1048576
  h3 : size ≤ 1048576
  hp : parts = partsN size each
  hm : parts ≤ 256
theorem fair_sl (hs : Mem g w L) {name : ByteArray} {size sum each parts : Nat} (h : Fair size each parts) : Calls Tryd.prog 75 #[.agg (planC name size sum each parts).toArray] w (Ret fun v w' => v = .bool true ∧ Mem g w' L) := hs.calls (fair_any h.h1 h.h2 h.h3 h.hp h.hm)
theorem step_bad (hE : ErrG ad g) (hs : Mem g w L) {name : ByteArray} {size sum each parts : Nat} (h : Fair size each parts) {id done : Int} {ba : Option Addr} {m c : Nat} (hbad : (m : Int) ≠ size ∨ done < 0 ∨ (parts : Int) < done) :
    Calls Tryd.prog 46 #[.pointer (some ⟨q, 0, none⟩), .agg (planC name size sum each parts).toArray, .slice ba m c, .int .i64 id, .int .i64 done] w (Ret fun v w' => v = .tuple #[.int .i64 id, .int .i64 done, .bool false, errV ad 105] ∧ Mem g w' L) := by
  refine calls_cw Tryd.func46 rfl rfl ?_
  skip
  refine cw_seq ?_
  refine cw_region ?_
  first | refine lw_box (v := .agg _) hs rfl rfl ?_
  clear hs
  intro b6 w hs
  try simp only [List.set_cons_succ, List.set_cons_zero] at hs
  first | refine lw_val rfl (run_assign (v := .int .i64 _) rfl) ?_
  first | refine lw_val rfl (run_assign (v := .int .i64 _) rfl) ?_
  first | refine lw_val rfl (run_assign (v := .bool _) rfl) ?_
  first | refine lw_val rfl (run_assign (v := errV ad _) rfl) ?_ | refine lw_val rfl (run_assign (v := .nilIface) rfl) ?_
  refine lw_nil ?_
  refine cw_seq ?_
  refine cw_seq ?_
  refine cw_region ?_
  first | refine lw_val rfl (run_loadRow hs 0 rfl Tryd.underlying38 sz38 rfl) ?_ | refine lw_val rfl (run_loadRow hs 1 rfl Tryd.underlying38 sz38 rfl) ?_ | refine lw_val rfl (run_loadRow hs 2 rfl Tryd.underlying38 sz38 rfl) ?_ | refine lw_val rfl (run_loadRow hs 3 rfl Tryd.underlying38 sz38 rfl) ?_ | refine lw_val rfl (run_loadRow hs 4 rfl Tryd.underlying38 sz38 rfl) ?_ | refine lw_val rfl (run_loadRow hs 5 rfl Tryd.underlying38 sz38 rfl) ?_ | refine lw_val rfl (run_loadRow hs 6 rfl Tryd.underlying38 sz38 rfl) ?_ | refine lw_val rfl (run_loadRow hs 7 rfl Tryd.underlying38 sz38 rfl) ?_ | refine lw_val rfl (run_loadRow hs 8 rfl Tryd.underlying38 sz38 rfl) ?_ | refine lw_val rfl (run_loadRow hs 9 rfl Tryd.underlying38 sz38 rfl) ?_ | refine lw_val rfl (run_loadRow hs 10 rfl Tryd.underlying38 sz38 rfl) ?_ | refine lw_val rfl (run_loadRow hs 11 rfl Tryd.underlying38 sz38 rfl) ?_ | refine lw_val rfl (run_loadRow hs 12 rfl Tryd.underlying38 sz38 rfl) ?_ | refine lw_val rfl (run_loadRow hs 13 rfl Tryd.underlying38 sz38 rfl) ?_
  refine lw_call rfl en75 (fair_sl hs h) ?_
  clear hs
  rintro _ w ⟨rfl, hs⟩
  refine lw_val rfl (run_not rfl) ?_
  first | refine lw_val rfl (run_move (v := .bool _) rfl) ?_
  refine lw_on rfl rfl (not_f (rfl)) ?_
  first | refine lw_val rfl (run_move (v := .slice _ _ _) rfl) ?_
  refine lw_on rfl rfl (not_f (rfl)) ?_
  refine lw_val rfl (run_lenS Tryd.underlying27 rfl) ?_
  refine lw_on rfl rfl (not_f (rfl)) ?_
  first | refine lw_val rfl (run_fieldAddr (o' := 1) Tryd.underlying38 rfl sz3 rfl rfl rfl) ?_ | refine lw_val rfl (run_fieldAddr Tryd.underlying38 rfl sz3 rfl rfl rfl) ?_
  refine lw_on rfl rfl (not_f (rfl)) ?_
  first | refine lw_val rfl (run_load Tryd.underlying3 rfl rfl (hs.cellAt 0 rfl rfl)) ?_ | refine lw_val rfl (run_load Tryd.underlying3 rfl rfl (hs.cellAt 1 rfl rfl)) ?_ | refine lw_val rfl (run_load Tryd.underlying3 rfl rfl (hs.cellAt 2 rfl rfl)) ?_ | refine lw_val rfl (run_load Tryd.underlying3 rfl rfl (hs.cellAt 3 rfl rfl)) ?_ | refine lw_val rfl (run_load Tryd.underlying3 rfl rfl (hs.cellAt 4 rfl rfl)) ?_ | refine lw_val rfl (run_load Tryd.underlying3 rfl rfl (hs.cellAt 5 rfl rfl)) ?_ | refine lw_val rfl (run_load Tryd.underlying3 rfl rfl (hs.cellAt 6 rfl rfl)) ?_ | refine lw_val rfl (run_load Tryd.underlying3 rfl rfl (hs.cellAt 7 rfl rfl)) ?_ | refine lw_val rfl (run_load Tryd.underlying3 rfl rfl (hs.cellAt 8 rfl rfl)) ?_ | refine lw_val rfl (run_load Tryd.underlying3 rfl rfl (hs.cellAt 9 rfl rfl)) ?_ | refine lw_val rfl (run_load Tryd.underlying3 rfl rfl (hs.cellAt 10 rfl rfl)) ?_ | refine lw_val rfl (run_load Tryd.underlying3 rfl rfl (hs.cellAt 11 rfl rfl)) ?_ | refine lw_val rfl (run_load Tryd.underlying3 rfl rfl (hs.cellAt 12 rfl rfl)) ?_ | refine lw_val rfl (run_load Tryd.underlying3 rfl rfl (hs.cellAt 13 rfl rfl)) ?_
  refine lw_on rfl rfl (not_f (rfl)) ?_
  refine lw_val rfl (run_nei rfl rfl) ?_
  first | refine lw_val rfl (run_pickF (v := .bool _) rfl (not_f (rfl)) rfl) ?_
  first | refine lw_val rfl (run_move (v := .bool _) rfl) ?_
  refine lw_split (t := _) (d := 30) rfl ?_ ?_
  · intro h28
    have g28 := ne_t h28
    refine lw_off rfl rfl rfl h28 ?_
    refine lw_off rfl rfl rfl h28 ?_
    first | refine lw_val rfl (run_pickT (v := .bool _) rfl h28 rfl) ?_
    first | refine lw_val rfl (run_move (v := .bool _) rfl) ?_
    refine lw_off rfl rfl rfl rfl ?_
    refine lw_off rfl rfl rfl rfl ?_
    refine lw_off rfl rfl rfl rfl ?_
    refine lw_off rfl rfl rfl rfl ?_
    first | refine lw_val rfl (run_pickT (v := .bool _) rfl rfl rfl) ?_
    refine lw_nil ?_
    refine cw_ift rfl rfl ?_
    refine cw_seq ?_
    refine cw_drawS mixes hs ?_
    intro w tr hK
    replace hs := tr _ hs
    clear tr
    first | refine aw_take 0 rfl (by kernel_rfl) (by kernel_rfl) (by kernel_rfl) rfl (fun w hs => run_move (v := .int .i64 _) rfl) hK ?_
    first | refine aw_take 1 rfl (by kernel_rfl) (by kernel_rfl) (by kernel_rfl) rfl (fun w hs => run_move (v := .int .i64 _) rfl) hK ?_
    refine aw_take 2 rfl (by kernel_rfl) (by kernel_rfl) (by kernel_rfl) rfl (fun w hs => run_load Tryd.underlying29 rfl rfl (hE.cellW hs 105 (by decide) rfl)) hK ?_
    first | refine aw_take 3 rfl (by kernel_rfl) (by kernel_rfl) (by kernel_rfl) rfl (fun w hs => run_assign (v := .int .i64 _) rfl) hK ?_
    first | refine aw_take 4 rfl (by kernel_rfl) (by kernel_rfl) (by kernel_rfl) rfl (fun w hs => run_assign (v := .int .i64 _) rfl) hK ?_
    first | refine aw_take 5 rfl (by kernel_rfl) (by kernel_rfl) (by kernel_rfl) rfl (fun w hs => run_assign (v := .bool _) rfl) hK ?_
    first | refine aw_take 6 rfl (by kernel_rfl) (by kernel_rfl) (by kernel_rfl) rfl (fun w hs => run_assign (v := errV ad _) rfl) hK ?_ | refine aw_take 6 rfl (by kernel_rfl) (by kernel_rfl) (by kernel_rfl) rfl (fun w hs => run_assign (v := .nilIface) rfl) hK ?_
    refine aw_done (by kernel_rfl) ?_
    clear hK
    refine cw_ret ?_
    first | refine res4 (v := .int .i64 _) (v2 := .int .i64 _) (v3 := .bool _) (v4 := errV ad _) rfl rfl rfl rfl rfl ?_ | refine res4 (v := .int .i64 _) (v2 := .int .i64 _) (v3 := .bool _) (v4 := .nilIface) rfl rfl rfl rfl rfl ?_
    exact ⟨_, rfl, rfl, hs.tail⟩
  · intro h28
    have g28 := ne_f h28
    refine lw_on rfl rfl h28 ?_
    first | refine lw_val rfl (run_move (v := .int .i64 _) rfl) ?_
    refine lw_on rfl rfl h28 ?_
    refine lw_val rfl (run_lss rfl rfl) ?_
    first | refine lw_val rfl (run_pickF (v := .bool _) rfl h28 rfl) ?_
    first | refine lw_val rfl (run_move (v := .bool _) rfl) ?_
    refine lw_split (t := _) (d := 34) rfl ?_ ?_
    · intro h32
      have g32 := of_decide_eq_true h32
      refine lw_off rfl rfl rfl h32 ?_
      refine lw_off rfl rfl rfl h32 ?_
      refine lw_off rfl rfl rfl h32 ?_
      refine lw_off rfl rfl rfl h32 ?_
      first | refine lw_val rfl (run_pickT (v := .bool _) rfl h32 rfl) ?_
      refine lw_nil ?_
      refine cw_ift rfl rfl ?_
      refine cw_seq ?_
      refine cw_drawS mixes hs ?_
      intro w tr hK
      replace hs := tr _ hs
      clear tr
      first | refine aw_take 0 rfl (by kernel_rfl) (by kernel_rfl) (by kernel_rfl) rfl (fun w hs => run_move (v := .int .i64 _) rfl) hK ?_
      first | refine aw_take 1 rfl (by kernel_rfl) (by kernel_rfl) (by kernel_rfl) rfl (fun w hs => run_move (v := .int .i64 _) rfl) hK ?_
      refine aw_take 2 rfl (by kernel_rfl) (by kernel_rfl) (by kernel_rfl) rfl (fun w hs => run_load Tryd.underlying29 rfl rfl (hE.cellW hs 105 (by decide) rfl)) hK ?_
      first | refine aw_take 3 rfl (by kernel_rfl) (by kernel_rfl) (by kernel_rfl) rfl (fun w hs => run_assign (v := .int .i64 _) rfl) hK ?_
      first | refine aw_take 4 rfl (by kernel_rfl) (by kernel_rfl) (by kernel_rfl) rfl (fun w hs => run_assign (v := .int .i64 _) rfl) hK ?_
      first | refine aw_take 5 rfl (by kernel_rfl) (by kernel_rfl) (by kernel_rfl) rfl (fun w hs => run_assign (v := .bool _) rfl) hK ?_
      first | refine aw_take 6 rfl (by kernel_rfl) (by kernel_rfl) (by kernel_rfl) rfl (fun w hs => run_assign (v := errV ad _) rfl) hK ?_ | refine aw_take 6 rfl (by kernel_rfl) (by kernel_rfl) (by kernel_rfl) rfl (fun w hs => run_assign (v := .nilIface) rfl) hK ?_
      refine aw_done (by kernel_rfl) ?_
      clear hK
      refine cw_ret ?_
      first | refine res4 (v := .int .i64 _) (v2 := .int .i64 _) (v3 := .bool _) (v4 := errV ad _) rfl rfl rfl rfl rfl ?_ | refine res4 (v := .int .i64 _) (v2 := .int .i64 _) (v3 := .bool _) (v4 := .nilIface) rfl rfl rfl rfl rfl ?_
      exact ⟨_, rfl, rfl, hs.tail⟩
    · intro h32
      have g32 := of_decide_eq_false h32
      refine lw_on rfl rfl h32 ?_
      first | refine lw_val rfl (run_move (v := .int .i64 _) rfl) ?_
      refine lw_on rfl rfl h32 ?_
      first | refine lw_val rfl (run_fieldAddr (o' := 4) Tryd.underlying38 rfl sz3 rfl rfl rfl) ?_ | refine lw_val rfl (run_fieldAddr Tryd.underlying38 rfl sz3 rfl rfl rfl) ?_
      refine lw_on rfl rfl h32 ?_
      first | refine lw_val rfl (run_load Tryd.underlying3 rfl rfl (hs.cellAt 0 rfl rfl)) ?_ | refine lw_val rfl (run_load Tryd.underlying3 rfl rfl (hs.cellAt 1 rfl rfl)) ?_ | refine lw_val rfl (run_load Tryd.underlying3 rfl rfl (hs.cellAt 2 rfl rfl)) ?_ | refine lw_val rfl (run_load Tryd.underlying3 rfl rfl (hs.cellAt 3 rfl rfl)) ?_ | refine lw_val rfl (run_load Tryd.underlying3 rfl rfl (hs.cellAt 4 rfl rfl)) ?_ | refine lw_val rfl (run_load Tryd.underlying3 rfl rfl (hs.cellAt 5 rfl rfl)) ?_ | refine lw_val rfl (run_load Tryd.underlying3 rfl rfl (hs.cellAt 6 rfl rfl)) ?_ | refine lw_val rfl (run_load Tryd.underlying3 rfl rfl (hs.cellAt 7 rfl rfl)) ?_ | refine lw_val rfl (run_load Tryd.underlying3 rfl rfl (hs.cellAt 8 rfl rfl)) ?_ | refine lw_val rfl (run_load Tryd.underlying3 rfl rfl (hs.cellAt 9 rfl rfl)) ?_ | refine lw_val rfl (run_load Tryd.underlying3 rfl rfl (hs.cellAt 10 rfl rfl)) ?_ | refine lw_val rfl (run_load Tryd.underlying3 rfl rfl (hs.cellAt 11 rfl rfl)) ?_ | refine lw_val rfl (run_load Tryd.underlying3 rfl rfl (hs.cellAt 12 rfl rfl)) ?_ | refine lw_val rfl (run_load Tryd.underlying3 rfl rfl (hs.cellAt 13 rfl rfl)) ?_
      refine lw_on rfl rfl h32 ?_
      refine lw_val rfl (run_gtr rfl rfl) ?_
      first | refine lw_val rfl (run_pickF (v := .bool _) rfl h32 rfl) ?_
      refine lw_nil ?_
      refine cw_ift rfl (decide_eq_true (by omega)) ?_
      refine cw_seq ?_
      refine cw_drawS mixes hs ?_
      intro w tr hK
      replace hs := tr _ hs
      clear tr
      first | refine aw_take 0 rfl (by kernel_rfl) (by kernel_rfl) (by kernel_rfl) rfl (fun w hs => run_move (v := .int .i64 _) rfl) hK ?_
      first | refine aw_take 1 rfl (by kernel_rfl) (by kernel_rfl) (by kernel_rfl) rfl (fun w hs => run_move (v := .int .i64 _) rfl) hK ?_
      refine aw_take 2 rfl (by kernel_rfl) (by kernel_rfl) (by kernel_rfl) rfl (fun w hs => run_load Tryd.underlying29 rfl rfl (hE.cellW hs 105 (by decide) rfl)) hK ?_
      first | refine aw_take 3 rfl (by kernel_rfl) (by kernel_rfl) (by kernel_rfl) rfl (fun w hs => run_assign (v := .int .i64 _) rfl) hK ?_
      first | refine aw_take 4 rfl (by kernel_rfl) (by kernel_rfl) (by kernel_rfl) rfl (fun w hs => run_assign (v := .int .i64 _) rfl) hK ?_
      first | refine aw_take 5 rfl (by kernel_rfl) (by kernel_rfl) (by kernel_rfl) rfl (fun w hs => run_assign (v := .bool _) rfl) hK ?_
      first | refine aw_take 6 rfl (by kernel_rfl) (by kernel_rfl) (by kernel_rfl) rfl (fun w hs => run_assign (v := errV ad _) rfl) hK ?_ | refine aw_take 6 rfl (by kernel_rfl) (by kernel_rfl) (by kernel_rfl) rfl (fun w hs => run_assign (v := .nilIface) rfl) hK ?_
      refine aw_done (by kernel_rfl) ?_
      clear hK
      refine cw_ret ?_
      first | refine res4 (v := .int .i64 _) (v2 := .int .i64 _) (v3 := .bool _) (v4 := errV ad _) rfl rfl rfl rfl rfl ?_ | refine res4 (v := .int .i64 _) (v2 := .int .i64 _) (v3 := .bool _) (v4 := .nilIface) rfl rfl rfl rfl rfl ?_
      exact ⟨_, rfl, rfl, hs.tail⟩
theorem step_start (hE : ErrG ad g) {t : Nat} {a : Int} (ha : 0 ≤ a ∧ a < 900000000000) (ht : t ≤ 8) (hs : Mem g w (clientC q p t a :: StoreC p st :: M)) (hid : st.ids + 8 < 4611686018427387904) (hcl : st.calls + 8 < 4611686018427387904) (hfl : st.failed + 8 < 4611686018427387904)
    {name : ByteArray} {size sum each parts : Nat} (h : Fair size each parts) {done : Int} {ba : Option Addr} {c : Nat} (hd : 0 ≤ done ∧ done ≤ parts)
    {lost : Bool} {x n : Nat} {st2 : St} {i : Int} (hk : againR (startStep name) t (st, 0) = (lost, x, n, st2, i)) :
    Calls Tryd.prog 46 #[.pointer (some ⟨q, 0, none⟩), .agg (planC name size sum each parts).toArray, .slice ba size c, .int .i64 0, .int .i64 done] w
      (Ret fun v w' => v = .tuple #[.int .i64 (if x = 0 then i else 0), .int .i64 (if x = 0 then 0 else done), .bool false, errV ad x] ∧ Mem g w' (clientC q p t (a + (n : Nat)) :: StoreC p st2 :: M)) := by
  refine calls_cw Tryd.func46 rfl rfl ?_
  skip
  refine cw_seq ?_
  refine cw_region ?_
  first | refine lw_box (v := .agg _) hs rfl rfl ?_
  clear hs
  intro b6 w hs
  try simp only [List.set_cons_succ, List.set_cons_zero] at hs
  first | refine lw_val rfl (run_assign (v := .int .i64 _) rfl) ?_
  first | refine lw_val rfl (run_assign (v := .int .i64 _) rfl) ?_
  first | refine lw_val rfl (run_assign (v := .bool _) rfl) ?_
  first | refine lw_val rfl (run_assign (v := errV ad _) rfl) ?_ | refine lw_val rfl (run_assign (v := .nilIface) rfl) ?_
  refine lw_nil ?_
  refine cw_seq ?_
  refine cw_seq ?_
  refine cw_region ?_
  first | refine lw_val rfl (run_loadRow hs 0 rfl Tryd.underlying38 sz38 rfl) ?_ | refine lw_val rfl (run_loadRow hs 1 rfl Tryd.underlying38 sz38 rfl) ?_ | refine lw_val rfl (run_loadRow hs 2 rfl Tryd.underlying38 sz38 rfl) ?_ | refine lw_val rfl (run_loadRow hs 3 rfl Tryd.underlying38 sz38 rfl) ?_ | refine lw_val rfl (run_loadRow hs 4 rfl Tryd.underlying38 sz38 rfl) ?_ | refine lw_val rfl (run_loadRow hs 5 rfl Tryd.underlying38 sz38 rfl) ?_ | refine lw_val rfl (run_loadRow hs 6 rfl Tryd.underlying38 sz38 rfl) ?_ | refine lw_val rfl (run_loadRow hs 7 rfl Tryd.underlying38 sz38 rfl) ?_ | refine lw_val rfl (run_loadRow hs 8 rfl Tryd.underlying38 sz38 rfl) ?_ | refine lw_val rfl (run_loadRow hs 9 rfl Tryd.underlying38 sz38 rfl) ?_ | refine lw_val rfl (run_loadRow hs 10 rfl Tryd.underlying38 sz38 rfl) ?_ | refine lw_val rfl (run_loadRow hs 11 rfl Tryd.underlying38 sz38 rfl) ?_ | refine lw_val rfl (run_loadRow hs 12 rfl Tryd.underlying38 sz38 rfl) ?_ | refine lw_val rfl (run_loadRow hs 13 rfl Tryd.underlying38 sz38 rfl) ?_
  refine lw_call rfl en75 (fair_sl hs h) ?_
  clear hs
  rintro _ w ⟨rfl, hs⟩
  refine lw_val rfl (run_not rfl) ?_
  first | refine lw_val rfl (run_move (v := .bool _) rfl) ?_
  refine lw_on rfl rfl (not_f (rfl)) ?_
  first | refine lw_val rfl (run_move (v := .slice _ _ _) rfl) ?_
  refine lw_on rfl rfl (not_f (rfl)) ?_
  refine lw_val rfl (run_lenS Tryd.underlying27 rfl) ?_
  refine lw_on rfl rfl (not_f (rfl)) ?_
  first | refine lw_val rfl (run_fieldAddr (o' := 1) Tryd.underlying38 rfl sz3 rfl rfl rfl) ?_ | refine lw_val rfl (run_fieldAddr Tryd.underlying38 rfl sz3 rfl rfl rfl) ?_
  refine lw_on rfl rfl (not_f (rfl)) ?_
  first | refine lw_val rfl (run_load Tryd.underlying3 rfl rfl (hs.cellAt 0 rfl rfl)) ?_ | refine lw_val rfl (run_load Tryd.underlying3 rfl rfl (hs.cellAt 1 rfl rfl)) ?_ | refine lw_val rfl (run_load Tryd.underlying3 rfl rfl (hs.cellAt 2 rfl rfl)) ?_ | refine lw_val rfl (run_load Tryd.underlying3 rfl rfl (hs.cellAt 3 rfl rfl)) ?_ | refine lw_val rfl (run_load Tryd.underlying3 rfl rfl (hs.cellAt 4 rfl rfl)) ?_ | refine lw_val rfl (run_load Tryd.underlying3 rfl rfl (hs.cellAt 5 rfl rfl)) ?_ | refine lw_val rfl (run_load Tryd.underlying3 rfl rfl (hs.cellAt 6 rfl rfl)) ?_ | refine lw_val rfl (run_load Tryd.underlying3 rfl rfl (hs.cellAt 7 rfl rfl)) ?_ | refine lw_val rfl (run_load Tryd.underlying3 rfl rfl (hs.cellAt 8 rfl rfl)) ?_ | refine lw_val rfl (run_load Tryd.underlying3 rfl rfl (hs.cellAt 9 rfl rfl)) ?_ | refine lw_val rfl (run_load Tryd.underlying3 rfl rfl (hs.cellAt 10 rfl rfl)) ?_ | refine lw_val rfl (run_load Tryd.underlying3 rfl rfl (hs.cellAt 11 rfl rfl)) ?_ | refine lw_val rfl (run_load Tryd.underlying3 rfl rfl (hs.cellAt 12 rfl rfl)) ?_ | refine lw_val rfl (run_load Tryd.underlying3 rfl rfl (hs.cellAt 13 rfl rfl)) ?_
  refine lw_on rfl rfl (not_f (rfl)) ?_
  refine lw_val rfl (run_nei rfl rfl) ?_
  first | refine lw_val rfl (run_pickF (v := .bool _) rfl (not_f (rfl)) rfl) ?_
  first | refine lw_val rfl (run_move (v := .bool _) rfl) ?_
  refine lw_on rfl rfl (not_f (decide_eq_true rfl)) ?_
  first | refine lw_val rfl (run_move (v := .int .i64 _) rfl) ?_
  refine lw_on rfl rfl (not_f (decide_eq_true rfl)) ?_
  refine lw_val rfl (run_lss rfl rfl) ?_
  first | refine lw_val rfl (run_pickF (v := .bool _) rfl (not_f (decide_eq_true rfl)) rfl) ?_
  first | refine lw_val rfl (run_move (v := .bool _) rfl) ?_
  refine lw_on rfl rfl (decide_eq_false (by omega)) ?_
  first | refine lw_val rfl (run_move (v := .int .i64 _) rfl) ?_
  refine lw_on rfl rfl (decide_eq_false (by omega)) ?_
  first | refine lw_val rfl (run_fieldAddr (o' := 4) Tryd.underlying38 rfl sz3 rfl rfl rfl) ?_ | refine lw_val rfl (run_fieldAddr Tryd.underlying38 rfl sz3 rfl rfl rfl) ?_
  refine lw_on rfl rfl (decide_eq_false (by omega)) ?_
  first | refine lw_val rfl (run_load Tryd.underlying3 rfl rfl (hs.cellAt 0 rfl rfl)) ?_ | refine lw_val rfl (run_load Tryd.underlying3 rfl rfl (hs.cellAt 1 rfl rfl)) ?_ | refine lw_val rfl (run_load Tryd.underlying3 rfl rfl (hs.cellAt 2 rfl rfl)) ?_ | refine lw_val rfl (run_load Tryd.underlying3 rfl rfl (hs.cellAt 3 rfl rfl)) ?_ | refine lw_val rfl (run_load Tryd.underlying3 rfl rfl (hs.cellAt 4 rfl rfl)) ?_ | refine lw_val rfl (run_load Tryd.underlying3 rfl rfl (hs.cellAt 5 rfl rfl)) ?_ | refine lw_val rfl (run_load Tryd.underlying3 rfl rfl (hs.cellAt 6 rfl rfl)) ?_ | refine lw_val rfl (run_load Tryd.underlying3 rfl rfl (hs.cellAt 7 rfl rfl)) ?_ | refine lw_val rfl (run_load Tryd.underlying3 rfl rfl (hs.cellAt 8 rfl rfl)) ?_ | refine lw_val rfl (run_load Tryd.underlying3 rfl rfl (hs.cellAt 9 rfl rfl)) ?_ | refine lw_val rfl (run_load Tryd.underlying3 rfl rfl (hs.cellAt 10 rfl rfl)) ?_ | refine lw_val rfl (run_load Tryd.underlying3 rfl rfl (hs.cellAt 11 rfl rfl)) ?_ | refine lw_val rfl (run_load Tryd.underlying3 rfl rfl (hs.cellAt 12 rfl rfl)) ?_ | refine lw_val rfl (run_load Tryd.underlying3 rfl rfl (hs.cellAt 13 rfl rfl)) ?_
  refine lw_on rfl rfl (decide_eq_false (by omega)) ?_
  refine lw_val rfl (run_gtr rfl rfl) ?_
  first | refine lw_val rfl (run_pickF (v := .bool _) rfl (decide_eq_false (by omega)) rfl) ?_
  refine lw_nil ?_
  refine cw_iff rfl (decide_eq_false (by omega)) ?_
  refine cw_skip ?_
  refine cw_seq ?_
  refine cw_seq ?_
  refine cw_region ?_
  first | refine lw_val rfl (run_move (v := .int .i64 _) rfl) ?_
  refine lw_val rfl (run_eqi rfl rfl) ?_
  refine lw_nil ?_
  refine cw_ift rfl (decide_eq_true rfl) ?_
  refine cw_seq ?_
  refine cw_region ?_
  first | refine lw_val rfl (run_move (v := .pointer (some _)) rfl) ?_ | refine lw_val rfl (run_move (v := .pointer none) rfl) ?_
  first | refine lw_val rfl (run_fieldAddr (o' := 0) Tryd.underlying38 rfl sz9 rfl rfl rfl) ?_ | refine lw_val rfl (run_fieldAddr Tryd.underlying38 rfl sz9 rfl rfl rfl) ?_
  first | refine lw_val rfl (run_load Tryd.underlying9 rfl rfl (hs.cellAt 0 rfl rfl)) ?_ | refine lw_val rfl (run_load Tryd.underlying9 rfl rfl (hs.cellAt 1 rfl rfl)) ?_ | refine lw_val rfl (run_load Tryd.underlying9 rfl rfl (hs.cellAt 2 rfl rfl)) ?_ | refine lw_val rfl (run_load Tryd.underlying9 rfl rfl (hs.cellAt 3 rfl rfl)) ?_ | refine lw_val rfl (run_load Tryd.underlying9 rfl rfl (hs.cellAt 4 rfl rfl)) ?_ | refine lw_val rfl (run_load Tryd.underlying9 rfl rfl (hs.cellAt 5 rfl rfl)) ?_ | refine lw_val rfl (run_load Tryd.underlying9 rfl rfl (hs.cellAt 6 rfl rfl)) ?_ | refine lw_val rfl (run_load Tryd.underlying9 rfl rfl (hs.cellAt 7 rfl rfl)) ?_ | refine lw_val rfl (run_load Tryd.underlying9 rfl rfl (hs.cellAt 8 rfl rfl)) ?_ | refine lw_val rfl (run_load Tryd.underlying9 rfl rfl (hs.cellAt 9 rfl rfl)) ?_ | refine lw_val rfl (run_load Tryd.underlying9 rfl rfl (hs.cellAt 10 rfl rfl)) ?_ | refine lw_val rfl (run_load Tryd.underlying9 rfl rfl (hs.cellAt 11 rfl rfl)) ?_ | refine lw_val rfl (run_load Tryd.underlying9 rfl rfl (hs.cellAt 12 rfl rfl)) ?_ | refine lw_val rfl (run_load Tryd.underlying9 rfl rfl (hs.cellAt 13 rfl rfl)) ?_
  refine lw_call rfl en41 (clStart_sl hE ⟨ha.1, by omega⟩ ht hs.tail hid hcl hfl hk) ?_
  clear hs
  rintro _ w ⟨rfl, hs⟩
  first | refine lw_val rfl (run_move (v := .tuple _) rfl) ?_
  first | refine lw_val rfl (run_extract (v := .int .i64 _) rfl rfl) ?_
  first | refine lw_val rfl (run_extract (v := errV ad _) rfl rfl) ?_ | refine lw_val rfl (run_extract (v := .nilIface) rfl rfl) ?_
  first | refine lw_val rfl (run_assign (v := .int .i64 _) rfl) ?_
  first | refine lw_val rfl (run_assign (v := errV ad _) rfl) ?_ | refine lw_val rfl (run_assign (v := .nilIface) rfl) ?_
  refine lw_nil ?_
  refine cw_seq ?_
  refine cw_seq ?_
  refine cw_region ?_
  first | refine lw_val rfl (run_move (v := errV ad _) rfl) ?_ | refine lw_val rfl (run_move (v := .nilIface) rfl) ?_
  first | refine lw_val rfl (run_neerrn (ad := ad) rfl) ?_ | refine lw_val rfl (run_nenn rfl) ?_
  refine lw_nil ?_
  refine cw_if rfl ?_ ?_
  · intro h53
    have g53 := ne_t h53
    refine cw_seq ?_
    refine cw_region ?_
    first | refine lw_val rfl (run_move (v := .int .i64 _) rfl) ?_
    first | refine lw_val rfl (run_move (v := .int .i64 _) rfl) ?_
    first | refine lw_val rfl (run_move (v := errV ad _) rfl) ?_ | refine lw_val rfl (run_move (v := .nilIface) rfl) ?_
    first | refine lw_val rfl (run_assign (v := .int .i64 _) rfl) ?_
    first | refine lw_val rfl (run_assign (v := .int .i64 _) rfl) ?_
    first | refine lw_val rfl (run_assign (v := .bool _) rfl) ?_
    first | refine lw_val rfl (run_assign (v := errV ad _) rfl) ?_ | refine lw_val rfl (run_assign (v := .nilIface) rfl) ?_
    refine lw_nil ?_
    refine cw_ret ?_
    first | refine res4 (v := .int .i64 _) (v2 := .int .i64 _) (v3 := .bool _) (v4 := errV ad _) rfl rfl rfl rfl rfl ?_ | refine res4 (v := .int .i64 _) (v2 := .int .i64 _) (v3 := .bool _) (v4 := .nilIface) rfl rfl rfl rfl rfl ?_
    exact ⟨_, rfl, by rw [if_neg g53, if_neg g53], hs⟩
  · intro h53
    have g53 := ne_f h53
    refine cw_skip ?_
    refine cw_seq ?_
    refine cw_region ?_
    first | refine lw_val rfl (run_move (v := .int .i64 _) rfl) ?_
    first | refine lw_val rfl (run_assign (v := .int .i64 _) rfl) ?_
    first | refine lw_val rfl (run_assign (v := .int .i64 _) rfl) ?_
    first | refine lw_val rfl (run_assign (v := .bool _) rfl) ?_
    first | refine lw_val rfl (run_assign (v := errV ad _) rfl) ?_ | refine lw_val rfl (run_assign (v := .nilIface) rfl) ?_
    refine lw_nil ?_
    refine cw_ret ?_
    first | refine res4 (v := .int .i64 _) (v2 := .int .i64 _) (v3 := .bool _) (v4 := errV ad _) rfl rfl rfl rfl rfl ?_ | refine res4 (v := .int .i64 _) (v2 := .int .i64 _) (v3 := .bool _) (v4 := .nilIface) rfl rfl rfl rfl rfl ?_
    exact ⟨_, rfl, by rw [if_pos g53, if_pos g53, g53, errV_zero], hs⟩
theorem step_part (hE : ErrG ad g) {t : Nat} {a : Int} (ha : 0 ≤ a ∧ a < 900000000000) (ht : t ≤ 8) (hs : Mem g w (clientC q p t a :: StoreC p st :: M)) (hcl : st.calls + 8 < 4611686018427387904) (hfl : st.failed + 8 < 4611686018427387904)
    {name : ByteArray} {sum each parts : Nat} {l : List UInt8} (h : Fair l.length each parts) {id : Int} (hid : id ≠ 0) {k : Nat} (hd : k < parts) {ba : Option Addr} {c : Nat} (hr : Rd g M (.slice ba l.length c) (bytesL l))
    {lost : Bool} {x n : Nat} {st2 : St} (hk : againR (fun s => s.run (St.part1 id k ((l.take (min ((k + 1) * each) l.length)).drop (k * each)))) t st = (lost, x, n, st2)) :
    Calls Tryd.prog 46 #[.pointer (some ⟨q, 0, none⟩), .agg (planC name l.length sum each parts).toArray, .slice ba l.length c, .int .i64 id, .int .i64 k] w
      (Ret fun v w' => v = .tuple #[.int .i64 (if x = 107 then 0 else id), .int .i64 (if x = 107 then 0 else if x = 0 then k + 1 else k), .bool false, errV ad (if x = 107 then 0 else x)] ∧ Mem g w' (clientC q p t (a + (n : Nat)) :: StoreC p st2 :: M)) := by
  have hx := again_code (good := St.part1 id k ((l.take (min ((k + 1) * each) l.length)).drop (k * each))) (part1_code id k _) t st
  rw [hk] at hx
  replace hx : x = 0 ∨ x ∈ coreCodes := hx
  have hke := partsN_lt (size := l.length) (e := each) h.h1 (show k < partsN l.length each by rw [← h.hp]; exact hd)
  have hkm : (k + 1) * each = k * each + each := Nat.succ_mul _ _
  have hh1 := h.h1
  have hpm := h.hm
  have hop := ((hr.cons.cons : Rd g (clientC q p t a :: StoreC p st :: M) _ _).seq hs).open
  refine calls_cw Tryd.func46 rfl rfl ?_
  skip
  refine cw_seq ?_
  refine cw_region ?_
  first | refine lw_box (v := .agg _) hs rfl rfl ?_
  clear hs
  intro b6 w hs
  try simp only [List.set_cons_succ, List.set_cons_zero] at hs
  first | refine lw_val rfl (run_assign (v := .int .i64 _) rfl) ?_
  first | refine lw_val rfl (run_assign (v := .int .i64 _) rfl) ?_
  first | refine lw_val rfl (run_assign (v := .bool _) rfl) ?_
  first | refine lw_val rfl (run_assign (v := errV ad _) rfl) ?_ | refine lw_val rfl (run_assign (v := .nilIface) rfl) ?_
  refine lw_nil ?_
  refine cw_seq ?_
  refine cw_seq ?_
  refine cw_region ?_
  first | refine lw_val rfl (run_loadRow hs 0 rfl Tryd.underlying38 sz38 rfl) ?_ | refine lw_val rfl (run_loadRow hs 1 rfl Tryd.underlying38 sz38 rfl) ?_ | refine lw_val rfl (run_loadRow hs 2 rfl Tryd.underlying38 sz38 rfl) ?_ | refine lw_val rfl (run_loadRow hs 3 rfl Tryd.underlying38 sz38 rfl) ?_ | refine lw_val rfl (run_loadRow hs 4 rfl Tryd.underlying38 sz38 rfl) ?_ | refine lw_val rfl (run_loadRow hs 5 rfl Tryd.underlying38 sz38 rfl) ?_ | refine lw_val rfl (run_loadRow hs 6 rfl Tryd.underlying38 sz38 rfl) ?_ | refine lw_val rfl (run_loadRow hs 7 rfl Tryd.underlying38 sz38 rfl) ?_ | refine lw_val rfl (run_loadRow hs 8 rfl Tryd.underlying38 sz38 rfl) ?_ | refine lw_val rfl (run_loadRow hs 9 rfl Tryd.underlying38 sz38 rfl) ?_ | refine lw_val rfl (run_loadRow hs 10 rfl Tryd.underlying38 sz38 rfl) ?_ | refine lw_val rfl (run_loadRow hs 11 rfl Tryd.underlying38 sz38 rfl) ?_ | refine lw_val rfl (run_loadRow hs 12 rfl Tryd.underlying38 sz38 rfl) ?_ | refine lw_val rfl (run_loadRow hs 13 rfl Tryd.underlying38 sz38 rfl) ?_
  refine lw_call rfl en75 (fair_sl hs h) ?_
  clear hs
  rintro _ w ⟨rfl, hs⟩
  refine lw_val rfl (run_not rfl) ?_
  first | refine lw_val rfl (run_move (v := .bool _) rfl) ?_
  refine lw_on rfl rfl (not_f (rfl)) ?_
  first | refine lw_val rfl (run_move (v := .slice _ _ _) rfl) ?_
  refine lw_on rfl rfl (not_f (rfl)) ?_
  refine lw_val rfl (run_lenS Tryd.underlying27 rfl) ?_
  refine lw_on rfl rfl (not_f (rfl)) ?_
  first | refine lw_val rfl (run_fieldAddr (o' := 1) Tryd.underlying38 rfl sz3 rfl rfl rfl) ?_ | refine lw_val rfl (run_fieldAddr Tryd.underlying38 rfl sz3 rfl rfl rfl) ?_
  refine lw_on rfl rfl (not_f (rfl)) ?_
  first | refine lw_val rfl (run_load Tryd.underlying3 rfl rfl (hs.cellAt 0 rfl rfl)) ?_ | refine lw_val rfl (run_load Tryd.underlying3 rfl rfl (hs.cellAt 1 rfl rfl)) ?_ | refine lw_val rfl (run_load Tryd.underlying3 rfl rfl (hs.cellAt 2 rfl rfl)) ?_ | refine lw_val rfl (run_load Tryd.underlying3 rfl rfl (hs.cellAt 3 rfl rfl)) ?_ | refine lw_val rfl (run_load Tryd.underlying3 rfl rfl (hs.cellAt 4 rfl rfl)) ?_ | refine lw_val rfl (run_load Tryd.underlying3 rfl rfl (hs.cellAt 5 rfl rfl)) ?_ | refine lw_val rfl (run_load Tryd.underlying3 rfl rfl (hs.cellAt 6 rfl rfl)) ?_ | refine lw_val rfl (run_load Tryd.underlying3 rfl rfl (hs.cellAt 7 rfl rfl)) ?_ | refine lw_val rfl (run_load Tryd.underlying3 rfl rfl (hs.cellAt 8 rfl rfl)) ?_ | refine lw_val rfl (run_load Tryd.underlying3 rfl rfl (hs.cellAt 9 rfl rfl)) ?_ | refine lw_val rfl (run_load Tryd.underlying3 rfl rfl (hs.cellAt 10 rfl rfl)) ?_ | refine lw_val rfl (run_load Tryd.underlying3 rfl rfl (hs.cellAt 11 rfl rfl)) ?_ | refine lw_val rfl (run_load Tryd.underlying3 rfl rfl (hs.cellAt 12 rfl rfl)) ?_ | refine lw_val rfl (run_load Tryd.underlying3 rfl rfl (hs.cellAt 13 rfl rfl)) ?_
  refine lw_on rfl rfl (not_f (rfl)) ?_
  refine lw_val rfl (run_nei rfl rfl) ?_
  first | refine lw_val rfl (run_pickF (v := .bool _) rfl (not_f (rfl)) rfl) ?_
  first | refine lw_val rfl (run_move (v := .bool _) rfl) ?_
  refine lw_on rfl rfl (not_f (decide_eq_true rfl)) ?_
  first | refine lw_val rfl (run_move (v := .int .i64 _) rfl) ?_
  refine lw_on rfl rfl (not_f (decide_eq_true rfl)) ?_
  refine lw_val rfl (run_lss rfl rfl) ?_
  first | refine lw_val rfl (run_pickF (v := .bool _) rfl (not_f (decide_eq_true rfl)) rfl) ?_
  first | refine lw_val rfl (run_move (v := .bool _) rfl) ?_
  refine lw_on rfl rfl (decide_eq_false (by omega)) ?_
  first | refine lw_val rfl (run_move (v := .int .i64 _) rfl) ?_
  refine lw_on rfl rfl (decide_eq_false (by omega)) ?_
  first | refine lw_val rfl (run_fieldAddr (o' := 4) Tryd.underlying38 rfl sz3 rfl rfl rfl) ?_ | refine lw_val rfl (run_fieldAddr Tryd.underlying38 rfl sz3 rfl rfl rfl) ?_
  refine lw_on rfl rfl (decide_eq_false (by omega)) ?_
  first | refine lw_val rfl (run_load Tryd.underlying3 rfl rfl (hs.cellAt 0 rfl rfl)) ?_ | refine lw_val rfl (run_load Tryd.underlying3 rfl rfl (hs.cellAt 1 rfl rfl)) ?_ | refine lw_val rfl (run_load Tryd.underlying3 rfl rfl (hs.cellAt 2 rfl rfl)) ?_ | refine lw_val rfl (run_load Tryd.underlying3 rfl rfl (hs.cellAt 3 rfl rfl)) ?_ | refine lw_val rfl (run_load Tryd.underlying3 rfl rfl (hs.cellAt 4 rfl rfl)) ?_ | refine lw_val rfl (run_load Tryd.underlying3 rfl rfl (hs.cellAt 5 rfl rfl)) ?_ | refine lw_val rfl (run_load Tryd.underlying3 rfl rfl (hs.cellAt 6 rfl rfl)) ?_ | refine lw_val rfl (run_load Tryd.underlying3 rfl rfl (hs.cellAt 7 rfl rfl)) ?_ | refine lw_val rfl (run_load Tryd.underlying3 rfl rfl (hs.cellAt 8 rfl rfl)) ?_ | refine lw_val rfl (run_load Tryd.underlying3 rfl rfl (hs.cellAt 9 rfl rfl)) ?_ | refine lw_val rfl (run_load Tryd.underlying3 rfl rfl (hs.cellAt 10 rfl rfl)) ?_ | refine lw_val rfl (run_load Tryd.underlying3 rfl rfl (hs.cellAt 11 rfl rfl)) ?_ | refine lw_val rfl (run_load Tryd.underlying3 rfl rfl (hs.cellAt 12 rfl rfl)) ?_ | refine lw_val rfl (run_load Tryd.underlying3 rfl rfl (hs.cellAt 13 rfl rfl)) ?_
  refine lw_on rfl rfl (decide_eq_false (by omega)) ?_
  refine lw_val rfl (run_gtr rfl rfl) ?_
  first | refine lw_val rfl (run_pickF (v := .bool _) rfl (decide_eq_false (by omega)) rfl) ?_
  refine lw_nil ?_
  refine cw_iff rfl (decide_eq_false (by omega)) ?_
  refine cw_skip ?_
  refine cw_seq ?_
  refine cw_seq ?_
  refine cw_region ?_
  first | refine lw_val rfl (run_move (v := .int .i64 _) rfl) ?_
  refine lw_val rfl (run_eqi rfl rfl) ?_
  refine lw_nil ?_
  refine cw_iff rfl (decide_eq_false hid) ?_
  refine cw_skip ?_
  refine cw_seq ?_
  refine cw_region ?_
  first | refine lw_val rfl (run_assign (v := errV ad _) rfl) ?_ | refine lw_val rfl (run_assign (v := .nilIface) rfl) ?_
  refine lw_nil ?_
  refine cw_seq ?_
  refine cw_region ?_
  first | refine lw_val rfl (run_loadRow hs 0 rfl Tryd.underlying38 sz38 rfl) ?_ | refine lw_val rfl (run_loadRow hs 1 rfl Tryd.underlying38 sz38 rfl) ?_ | refine lw_val rfl (run_loadRow hs 2 rfl Tryd.underlying38 sz38 rfl) ?_ | refine lw_val rfl (run_loadRow hs 3 rfl Tryd.underlying38 sz38 rfl) ?_ | refine lw_val rfl (run_loadRow hs 4 rfl Tryd.underlying38 sz38 rfl) ?_ | refine lw_val rfl (run_loadRow hs 5 rfl Tryd.underlying38 sz38 rfl) ?_ | refine lw_val rfl (run_loadRow hs 6 rfl Tryd.underlying38 sz38 rfl) ?_ | refine lw_val rfl (run_loadRow hs 7 rfl Tryd.underlying38 sz38 rfl) ?_ | refine lw_val rfl (run_loadRow hs 8 rfl Tryd.underlying38 sz38 rfl) ?_ | refine lw_val rfl (run_loadRow hs 9 rfl Tryd.underlying38 sz38 rfl) ?_ | refine lw_val rfl (run_loadRow hs 10 rfl Tryd.underlying38 sz38 rfl) ?_ | refine lw_val rfl (run_loadRow hs 11 rfl Tryd.underlying38 sz38 rfl) ?_ | refine lw_val rfl (run_loadRow hs 12 rfl Tryd.underlying38 sz38 rfl) ?_ | refine lw_val rfl (run_loadRow hs 13 rfl Tryd.underlying38 sz38 rfl) ?_
  first | refine lw_val rfl (run_move (v := .int .i64 _) rfl) ?_
  refine lw_call rfl en32 (range_sl hs h.h1 h.h2 h.h3 h.hp h.hm) ?_
  clear hs
  rintro _ w ⟨f1, t1, hft, rfl, hs⟩
  obtain ⟨rfl, rfl⟩ := hft (by omega) (by omega)
  first | refine lw_val rfl (run_move (v := .tuple _) rfl) ?_
  first | refine lw_val rfl (run_extract (v := .int .i64 _) rfl rfl) ?_
  first | refine lw_val rfl (run_extract (v := .int .i64 _) rfl rfl) ?_
  first | refine lw_val rfl (run_extract (v := .bool _) rfl rfl) ?_
  first | refine lw_val rfl (run_assign (v := .int .i64 _) rfl) ?_
  first | refine lw_val rfl (run_assign (v := .int .i64 _) rfl) ?_
  first | refine lw_val rfl (run_assign (v := .bool _) rfl) ?_
  refine lw_nil ?_
  refine cw_seq ?_
  refine cw_seq ?_
  refine cw_region ?_
  first | refine lw_val rfl (run_move (v := .bool _) rfl) ?_
  refine lw_nil ?_
  refine cw_ift rfl (decide_eq_true ⟨by omega, by omega⟩) ?_
  refine cw_region ?_
  first | refine lw_val rfl (run_move (v := .pointer (some _)) rfl) ?_ | refine lw_val rfl (run_move (v := .pointer none) rfl) ?_
  first | refine lw_val rfl (run_move (v := .int .i64 _) rfl) ?_
  first | refine lw_val rfl (run_move (v := .int .i64 _) rfl) ?_
  first | refine lw_val rfl (run_move (v := .slice _ _ _) rfl) ?_
  first | refine lw_val rfl (run_move (v := .int .i64 _) rfl) ?_
  first | refine lw_val rfl (run_move (v := .int .i64 _) rfl) ?_
  refine lw_val rfl (run_slice Tryd.underlying27 sz5 rfl rfl rfl (lo := k * each) (hi := min ((k + 1) * each) l.length) rfl rfl (by omega) (by have := hop; omega)) ?_
  refine lw_call rfl en42 (clPart_sl (b := (l.take (min ((k + 1) * each) l.length)).drop (k * each)) hE ⟨ha.1, by omega⟩ ht hs.tail hcl hfl (hr.subB (by omega) (by omega)) (by simp; have := h.h3; omega) hk) ?_
  clear hs
  rintro _ w ⟨rfl, hs⟩
  first | refine lw_val rfl (run_assign (v := errV ad _) rfl) ?_ | refine lw_val rfl (run_assign (v := .nilIface) rfl) ?_
  refine lw_nil ?_
  refine cw_seq ?_
  refine cw_block ?_
  refine cw_seq ?_
  refine cw_region ?_
  first | refine lw_val rfl (run_move (v := errV ad _) rfl) ?_ | refine lw_val rfl (run_move (v := .nilIface) rfl) ?_
  refine lw_val rfl (run_load Tryd.underlying29 rfl rfl (hE.cellW hs 107 (by decide) rfl)) ?_
  refine lw_val rfl (run_eqerr (hE.atW hs) hx m107 (c := x) (d := 107) rfl rfl) ?_
  first | refine lw_val rfl (run_assign (v := .bool _) rfl) ?_
  refine lw_nil ?_
  refine cw_if rfl ?_ ?_
  · intro h88
    have g88 := of_decide_eq_true h88
    refine cw_seq ?_
    refine cw_region ?_
    first | refine lw_val rfl (run_assign (v := .int .i64 _) rfl) ?_
    first | refine lw_val rfl (run_assign (v := .int .i64 _) rfl) ?_
    first | refine lw_val rfl (run_assign (v := .bool _) rfl) ?_
    first | refine lw_val rfl (run_assign (v := errV ad _) rfl) ?_ | refine lw_val rfl (run_assign (v := .nilIface) rfl) ?_
    refine lw_nil ?_
    refine cw_ret ?_
    first | refine res4 (v := .int .i64 _) (v2 := .int .i64 _) (v3 := .bool _) (v4 := errV ad _) rfl rfl rfl rfl rfl ?_ | refine res4 (v := .int .i64 _) (v2 := .int .i64 _) (v3 := .bool _) (v4 := .nilIface) rfl rfl rfl rfl rfl ?_
    exact ⟨_, rfl, by simp only [if_pos g88, errV_zero], hs⟩
  · intro h88
    have g88 := of_decide_eq_false h88
    refine cw_seq ?_
    refine cw_region ?_
    first | refine lw_val rfl (run_move (v := errV ad _) rfl) ?_ | refine lw_val rfl (run_move (v := .nilIface) rfl) ?_
    first | refine lw_val rfl (run_neerrn (ad := ad) rfl) ?_ | refine lw_val rfl (run_nenn rfl) ?_
    first | refine lw_val rfl (run_assign (v := .bool _) rfl) ?_
    refine lw_nil ?_
    refine cw_if rfl ?_ ?_
    · intro h91
      have g91 := ne_t h91
      refine cw_seq ?_
      refine cw_region ?_
      first | refine lw_val rfl (run_move (v := .int .i64 _) rfl) ?_
      first | refine lw_val rfl (run_move (v := .int .i64 _) rfl) ?_
      first | refine lw_val rfl (run_move (v := errV ad _) rfl) ?_ | refine lw_val rfl (run_move (v := .nilIface) rfl) ?_
      first | refine lw_val rfl (run_assign (v := .int .i64 _) rfl) ?_
      first | refine lw_val rfl (run_assign (v := .int .i64 _) rfl) ?_
      first | refine lw_val rfl (run_assign (v := .bool _) rfl) ?_
      first | refine lw_val rfl (run_assign (v := errV ad _) rfl) ?_ | refine lw_val rfl (run_assign (v := .nilIface) rfl) ?_
      refine lw_nil ?_
      refine cw_ret ?_
      first | refine res4 (v := .int .i64 _) (v2 := .int .i64 _) (v3 := .bool _) (v4 := errV ad _) rfl rfl rfl rfl rfl ?_ | refine res4 (v := .int .i64 _) (v2 := .int .i64 _) (v3 := .bool _) (v4 := .nilIface) rfl rfl rfl rfl rfl ?_
      exact ⟨_, rfl, by simp only [if_neg g88, if_neg g91], hs⟩
    · intro h91
      have g91 := ne_f h91
      refine cw_seq ?_
      refine cw_region ?_
      first | refine lw_val rfl (run_move (v := .bool _) rfl) ?_
      first | refine lw_val rfl (run_assign (v := .bool _) rfl) ?_
      refine lw_nil ?_
      refine cw_ift rfl (decide_eq_true ⟨by omega, by omega⟩) ?_
      refine cw_seq ?_
      refine cw_region ?_
      first | refine lw_val rfl (run_move (v := .int .i64 _) rfl) ?_
      first | refine lw_val rfl (run_move (v := .int .i64 _) rfl) ?_
      refine lw_val rfl (run_add64 rfl rfl rfl (inI (by omega) (by omega))) ?_
      first | refine lw_val rfl (run_assign (v := .int .i64 _) rfl) ?_
      first | refine lw_val rfl (run_assign (v := .int .i64 _) rfl) ?_
      first | refine lw_val rfl (run_assign (v := .bool _) rfl) ?_
      first | refine lw_val rfl (run_assign (v := errV ad _) rfl) ?_ | refine lw_val rfl (run_assign (v := .nilIface) rfl) ?_
      refine lw_nil ?_
      refine cw_ret ?_
      first | refine res4 (v := .int .i64 _) (v2 := .int .i64 _) (v3 := .bool _) (v4 := errV ad _) rfl rfl rfl rfl rfl ?_ | refine res4 (v := .int .i64 _) (v2 := .int .i64 _) (v3 := .bool _) (v4 := .nilIface) rfl rfl rfl rfl rfl ?_
      exact ⟨_, rfl, by simp only [if_neg g88, if_pos g91]; rw [g91, errV_zero], hs⟩
theorem step_complete (hE : ErrG ad g) (hsm : st.small) {t : Nat} {a : Int} (ha : 0 ≤ a ∧ a < 900000000000) (ht : t ≤ 8) (hs : Mem g w (clientC q p t a :: StoreC p st :: M)) (hcl : st.calls + 16 < 4611686018427387904) (hfl : st.failed + 16 < 4611686018427387904)
    {name : ByteArray} {size sum each parts : Nat} (h : Fair size each parts) {id : Int} (hid : id ≠ 0) {ba : Option Addr} {c : Nat}
    {lost l2 : Bool} {x y n m : Nat} {st2 st3 : St} {i j : Int} (hk : againR (fun s => s.run (St.complete1 id parts)) t st = (lost, x, n, st2)) (hq : againR (headStep name) t (st2, 0, 0) = (l2, y, m, st3, i, j))
    {r N : Nat} {st4 : St} (hr : (if lost = true ∧ x = 107 then (if y = 111 then 111 else if y = 0 ∧ i = size ∧ j = sum then 0 else 107) else x) = r) (hN : (if lost = true ∧ x = 107 then n + m else n) = N) (h4 : (if lost = true ∧ x = 107 then st3 else st2) = st4) :
    Calls Tryd.prog 46 #[.pointer (some ⟨q, 0, none⟩), .agg (planC name size sum each parts).toArray, .slice ba size c, .int .i64 id, .int .i64 (parts : Nat)] w
      (Ret fun v w' => v = .tuple #[.int .i64 (if r = 107 then 0 else id), .int .i64 (if r = 107 then 0 else parts), .bool (decide (r = 0)), errV ad (if r = 107 then 0 else r)] ∧ Mem g w' (clientC q p t (a + (N : Nat)) :: StoreC p st4 :: M)) := by
  have hx := again_code (good := St.complete1 id parts) (complete1_code id parts) t st
  rw [hk] at hx
  replace hx : x = 0 ∨ x ∈ coreCodes := hx
  have hrc : r = 0 ∨ r ∈ coreCodes := by
    rw [← hr]
    split
    · split
      · exact .inr m111
      · split
        · exact .inl rfl
        · exact .inr m107
    · exact hx
  refine calls_cw Tryd.func46 rfl rfl ?_
  skip
  refine cw_seq ?_
  refine cw_region ?_
  first | refine lw_box (v := .agg _) hs rfl rfl ?_
  clear hs
  intro b6 w hs
  try simp only [List.set_cons_succ, List.set_cons_zero] at hs
  first | refine lw_val rfl (run_assign (v := .int .i64 _) rfl) ?_
  first | refine lw_val rfl (run_assign (v := .int .i64 _) rfl) ?_
  first | refine lw_val rfl (run_assign (v := .bool _) rfl) ?_
  first | refine lw_val rfl (run_assign (v := errV ad _) rfl) ?_ | refine lw_val rfl (run_assign (v := .nilIface) rfl) ?_
  refine lw_nil ?_
  refine cw_seq ?_
  refine cw_seq ?_
  refine cw_region ?_
  first | refine lw_val rfl (run_loadRow hs 0 rfl Tryd.underlying38 sz38 rfl) ?_ | refine lw_val rfl (run_loadRow hs 1 rfl Tryd.underlying38 sz38 rfl) ?_ | refine lw_val rfl (run_loadRow hs 2 rfl Tryd.underlying38 sz38 rfl) ?_ | refine lw_val rfl (run_loadRow hs 3 rfl Tryd.underlying38 sz38 rfl) ?_ | refine lw_val rfl (run_loadRow hs 4 rfl Tryd.underlying38 sz38 rfl) ?_ | refine lw_val rfl (run_loadRow hs 5 rfl Tryd.underlying38 sz38 rfl) ?_ | refine lw_val rfl (run_loadRow hs 6 rfl Tryd.underlying38 sz38 rfl) ?_ | refine lw_val rfl (run_loadRow hs 7 rfl Tryd.underlying38 sz38 rfl) ?_ | refine lw_val rfl (run_loadRow hs 8 rfl Tryd.underlying38 sz38 rfl) ?_ | refine lw_val rfl (run_loadRow hs 9 rfl Tryd.underlying38 sz38 rfl) ?_ | refine lw_val rfl (run_loadRow hs 10 rfl Tryd.underlying38 sz38 rfl) ?_ | refine lw_val rfl (run_loadRow hs 11 rfl Tryd.underlying38 sz38 rfl) ?_ | refine lw_val rfl (run_loadRow hs 12 rfl Tryd.underlying38 sz38 rfl) ?_ | refine lw_val rfl (run_loadRow hs 13 rfl Tryd.underlying38 sz38 rfl) ?_
  refine lw_call rfl en75 (fair_sl hs h) ?_
  clear hs
  rintro _ w ⟨rfl, hs⟩
  refine lw_val rfl (run_not rfl) ?_
  first | refine lw_val rfl (run_move (v := .bool _) rfl) ?_
  refine lw_on rfl rfl (not_f (rfl)) ?_
  first | refine lw_val rfl (run_move (v := .slice _ _ _) rfl) ?_
  refine lw_on rfl rfl (not_f (rfl)) ?_
  refine lw_val rfl (run_lenS Tryd.underlying27 rfl) ?_
  refine lw_on rfl rfl (not_f (rfl)) ?_
  first | refine lw_val rfl (run_fieldAddr (o' := 1) Tryd.underlying38 rfl sz3 rfl rfl rfl) ?_ | refine lw_val rfl (run_fieldAddr Tryd.underlying38 rfl sz3 rfl rfl rfl) ?_
  refine lw_on rfl rfl (not_f (rfl)) ?_
  first | refine lw_val rfl (run_load Tryd.underlying3 rfl rfl (hs.cellAt 0 rfl rfl)) ?_ | refine lw_val rfl (run_load Tryd.underlying3 rfl rfl (hs.cellAt 1 rfl rfl)) ?_ | refine lw_val rfl (run_load Tryd.underlying3 rfl rfl (hs.cellAt 2 rfl rfl)) ?_ | refine lw_val rfl (run_load Tryd.underlying3 rfl rfl (hs.cellAt 3 rfl rfl)) ?_ | refine lw_val rfl (run_load Tryd.underlying3 rfl rfl (hs.cellAt 4 rfl rfl)) ?_ | refine lw_val rfl (run_load Tryd.underlying3 rfl rfl (hs.cellAt 5 rfl rfl)) ?_ | refine lw_val rfl (run_load Tryd.underlying3 rfl rfl (hs.cellAt 6 rfl rfl)) ?_ | refine lw_val rfl (run_load Tryd.underlying3 rfl rfl (hs.cellAt 7 rfl rfl)) ?_ | refine lw_val rfl (run_load Tryd.underlying3 rfl rfl (hs.cellAt 8 rfl rfl)) ?_ | refine lw_val rfl (run_load Tryd.underlying3 rfl rfl (hs.cellAt 9 rfl rfl)) ?_ | refine lw_val rfl (run_load Tryd.underlying3 rfl rfl (hs.cellAt 10 rfl rfl)) ?_ | refine lw_val rfl (run_load Tryd.underlying3 rfl rfl (hs.cellAt 11 rfl rfl)) ?_ | refine lw_val rfl (run_load Tryd.underlying3 rfl rfl (hs.cellAt 12 rfl rfl)) ?_ | refine lw_val rfl (run_load Tryd.underlying3 rfl rfl (hs.cellAt 13 rfl rfl)) ?_
  refine lw_on rfl rfl (not_f (rfl)) ?_
  refine lw_val rfl (run_nei rfl rfl) ?_
  first | refine lw_val rfl (run_pickF (v := .bool _) rfl (not_f (rfl)) rfl) ?_
  first | refine lw_val rfl (run_move (v := .bool _) rfl) ?_
  refine lw_on rfl rfl (not_f (decide_eq_true rfl)) ?_
  first | refine lw_val rfl (run_move (v := .int .i64 _) rfl) ?_
  refine lw_on rfl rfl (not_f (decide_eq_true rfl)) ?_
  refine lw_val rfl (run_lss rfl rfl) ?_
  first | refine lw_val rfl (run_pickF (v := .bool _) rfl (not_f (decide_eq_true rfl)) rfl) ?_
  first | refine lw_val rfl (run_move (v := .bool _) rfl) ?_
  refine lw_on rfl rfl (decide_eq_false (by omega)) ?_
  first | refine lw_val rfl (run_move (v := .int .i64 _) rfl) ?_
  refine lw_on rfl rfl (decide_eq_false (by omega)) ?_
  first | refine lw_val rfl (run_fieldAddr (o' := 4) Tryd.underlying38 rfl sz3 rfl rfl rfl) ?_ | refine lw_val rfl (run_fieldAddr Tryd.underlying38 rfl sz3 rfl rfl rfl) ?_
  refine lw_on rfl rfl (decide_eq_false (by omega)) ?_
  first | refine lw_val rfl (run_load Tryd.underlying3 rfl rfl (hs.cellAt 0 rfl rfl)) ?_ | refine lw_val rfl (run_load Tryd.underlying3 rfl rfl (hs.cellAt 1 rfl rfl)) ?_ | refine lw_val rfl (run_load Tryd.underlying3 rfl rfl (hs.cellAt 2 rfl rfl)) ?_ | refine lw_val rfl (run_load Tryd.underlying3 rfl rfl (hs.cellAt 3 rfl rfl)) ?_ | refine lw_val rfl (run_load Tryd.underlying3 rfl rfl (hs.cellAt 4 rfl rfl)) ?_ | refine lw_val rfl (run_load Tryd.underlying3 rfl rfl (hs.cellAt 5 rfl rfl)) ?_ | refine lw_val rfl (run_load Tryd.underlying3 rfl rfl (hs.cellAt 6 rfl rfl)) ?_ | refine lw_val rfl (run_load Tryd.underlying3 rfl rfl (hs.cellAt 7 rfl rfl)) ?_ | refine lw_val rfl (run_load Tryd.underlying3 rfl rfl (hs.cellAt 8 rfl rfl)) ?_ | refine lw_val rfl (run_load Tryd.underlying3 rfl rfl (hs.cellAt 9 rfl rfl)) ?_ | refine lw_val rfl (run_load Tryd.underlying3 rfl rfl (hs.cellAt 10 rfl rfl)) ?_ | refine lw_val rfl (run_load Tryd.underlying3 rfl rfl (hs.cellAt 11 rfl rfl)) ?_ | refine lw_val rfl (run_load Tryd.underlying3 rfl rfl (hs.cellAt 12 rfl rfl)) ?_ | refine lw_val rfl (run_load Tryd.underlying3 rfl rfl (hs.cellAt 13 rfl rfl)) ?_
  refine lw_on rfl rfl (decide_eq_false (by omega)) ?_
  refine lw_val rfl (run_gtr rfl rfl) ?_
  first | refine lw_val rfl (run_pickF (v := .bool _) rfl (decide_eq_false (by omega)) rfl) ?_
  refine lw_nil ?_
  refine cw_iff rfl (decide_eq_false (by omega)) ?_
  refine cw_skip ?_
  refine cw_seq ?_
  refine cw_seq ?_
  refine cw_region ?_
  first | refine lw_val rfl (run_move (v := .int .i64 _) rfl) ?_
  refine lw_val rfl (run_eqi rfl rfl) ?_
  refine lw_nil ?_
  refine cw_iff rfl (decide_eq_false hid) ?_
  refine cw_skip ?_
  refine cw_seq ?_
  refine cw_region ?_
  first | refine lw_val rfl (run_assign (v := errV ad _) rfl) ?_ | refine lw_val rfl (run_assign (v := .nilIface) rfl) ?_
  refine lw_nil ?_
  refine cw_seq ?_
  refine cw_region ?_
  first | refine lw_val rfl (run_loadRow hs 0 rfl Tryd.underlying38 sz38 rfl) ?_ | refine lw_val rfl (run_loadRow hs 1 rfl Tryd.underlying38 sz38 rfl) ?_ | refine lw_val rfl (run_loadRow hs 2 rfl Tryd.underlying38 sz38 rfl) ?_ | refine lw_val rfl (run_loadRow hs 3 rfl Tryd.underlying38 sz38 rfl) ?_ | refine lw_val rfl (run_loadRow hs 4 rfl Tryd.underlying38 sz38 rfl) ?_ | refine lw_val rfl (run_loadRow hs 5 rfl Tryd.underlying38 sz38 rfl) ?_ | refine lw_val rfl (run_loadRow hs 6 rfl Tryd.underlying38 sz38 rfl) ?_ | refine lw_val rfl (run_loadRow hs 7 rfl Tryd.underlying38 sz38 rfl) ?_ | refine lw_val rfl (run_loadRow hs 8 rfl Tryd.underlying38 sz38 rfl) ?_ | refine lw_val rfl (run_loadRow hs 9 rfl Tryd.underlying38 sz38 rfl) ?_ | refine lw_val rfl (run_loadRow hs 10 rfl Tryd.underlying38 sz38 rfl) ?_ | refine lw_val rfl (run_loadRow hs 11 rfl Tryd.underlying38 sz38 rfl) ?_ | refine lw_val rfl (run_loadRow hs 12 rfl Tryd.underlying38 sz38 rfl) ?_ | refine lw_val rfl (run_loadRow hs 13 rfl Tryd.underlying38 sz38 rfl) ?_
  first | refine lw_val rfl (run_move (v := .int .i64 _) rfl) ?_
  refine lw_call rfl en32 (range_sl hs h.h1 h.h2 h.h3 h.hp h.hm) ?_
  clear hs
  rintro _ w ⟨f1, t1, hft, rfl, hs⟩
  first | refine lw_val rfl (run_move (v := .tuple _) rfl) ?_
  first | refine lw_val rfl (run_extract (v := .int .i64 _) rfl rfl) ?_
  first | refine lw_val rfl (run_extract (v := .int .i64 _) rfl rfl) ?_
  first | refine lw_val rfl (run_extract (v := .bool _) rfl rfl) ?_
  first | refine lw_val rfl (run_assign (v := .int .i64 _) rfl) ?_
  first | refine lw_val rfl (run_assign (v := .int .i64 _) rfl) ?_
  first | refine lw_val rfl (run_assign (v := .bool _) rfl) ?_
  refine lw_nil ?_
  refine cw_seq ?_
  refine cw_seq ?_
  refine cw_region ?_
  first | refine lw_val rfl (run_move (v := .bool _) rfl) ?_
  refine lw_nil ?_
  refine cw_iff rfl (decide_eq_false (by omega)) ?_
  refine cw_region ?_
  first | refine lw_val rfl (run_move (v := .pointer (some _)) rfl) ?_ | refine lw_val rfl (run_move (v := .pointer none) rfl) ?_
  first | refine lw_val rfl (run_move (v := .int .i64 _) rfl) ?_
  first | refine lw_val rfl (run_fieldAddr (o' := 4) Tryd.underlying38 rfl sz3 rfl rfl rfl) ?_ | refine lw_val rfl (run_fieldAddr Tryd.underlying38 rfl sz3 rfl rfl rfl) ?_
  first | refine lw_val rfl (run_load Tryd.underlying3 rfl rfl (hs.cellAt 0 rfl rfl)) ?_ | refine lw_val rfl (run_load Tryd.underlying3 rfl rfl (hs.cellAt 1 rfl rfl)) ?_ | refine lw_val rfl (run_load Tryd.underlying3 rfl rfl (hs.cellAt 2 rfl rfl)) ?_ | refine lw_val rfl (run_load Tryd.underlying3 rfl rfl (hs.cellAt 3 rfl rfl)) ?_ | refine lw_val rfl (run_load Tryd.underlying3 rfl rfl (hs.cellAt 4 rfl rfl)) ?_ | refine lw_val rfl (run_load Tryd.underlying3 rfl rfl (hs.cellAt 5 rfl rfl)) ?_ | refine lw_val rfl (run_load Tryd.underlying3 rfl rfl (hs.cellAt 6 rfl rfl)) ?_ | refine lw_val rfl (run_load Tryd.underlying3 rfl rfl (hs.cellAt 7 rfl rfl)) ?_ | refine lw_val rfl (run_load Tryd.underlying3 rfl rfl (hs.cellAt 8 rfl rfl)) ?_ | refine lw_val rfl (run_load Tryd.underlying3 rfl rfl (hs.cellAt 9 rfl rfl)) ?_ | refine lw_val rfl (run_load Tryd.underlying3 rfl rfl (hs.cellAt 10 rfl rfl)) ?_ | refine lw_val rfl (run_load Tryd.underlying3 rfl rfl (hs.cellAt 11 rfl rfl)) ?_ | refine lw_val rfl (run_load Tryd.underlying3 rfl rfl (hs.cellAt 12 rfl rfl)) ?_ | refine lw_val rfl (run_load Tryd.underlying3 rfl rfl (hs.cellAt 13 rfl rfl)) ?_
  first | refine lw_val rfl (run_fieldAddr (o' := 0) Tryd.underlying38 rfl sz9 rfl rfl rfl) ?_ | refine lw_val rfl (run_fieldAddr Tryd.underlying38 rfl sz9 rfl rfl rfl) ?_
  first | refine lw_val rfl (run_load Tryd.underlying9 rfl rfl (hs.cellAt 0 rfl rfl)) ?_ | refine lw_val rfl (run_load Tryd.underlying9 rfl rfl (hs.cellAt 1 rfl rfl)) ?_ | refine lw_val rfl (run_load Tryd.underlying9 rfl rfl (hs.cellAt 2 rfl rfl)) ?_ | refine lw_val rfl (run_load Tryd.underlying9 rfl rfl (hs.cellAt 3 rfl rfl)) ?_ | refine lw_val rfl (run_load Tryd.underlying9 rfl rfl (hs.cellAt 4 rfl rfl)) ?_ | refine lw_val rfl (run_load Tryd.underlying9 rfl rfl (hs.cellAt 5 rfl rfl)) ?_ | refine lw_val rfl (run_load Tryd.underlying9 rfl rfl (hs.cellAt 6 rfl rfl)) ?_ | refine lw_val rfl (run_load Tryd.underlying9 rfl rfl (hs.cellAt 7 rfl rfl)) ?_ | refine lw_val rfl (run_load Tryd.underlying9 rfl rfl (hs.cellAt 8 rfl rfl)) ?_ | refine lw_val rfl (run_load Tryd.underlying9 rfl rfl (hs.cellAt 9 rfl rfl)) ?_ | refine lw_val rfl (run_load Tryd.underlying9 rfl rfl (hs.cellAt 10 rfl rfl)) ?_ | refine lw_val rfl (run_load Tryd.underlying9 rfl rfl (hs.cellAt 11 rfl rfl)) ?_ | refine lw_val rfl (run_load Tryd.underlying9 rfl rfl (hs.cellAt 12 rfl rfl)) ?_ | refine lw_val rfl (run_load Tryd.underlying9 rfl rfl (hs.cellAt 13 rfl rfl)) ?_
  first | refine lw_val rfl (run_fieldAddr (o' := 1) Tryd.underlying38 rfl sz3 rfl rfl rfl) ?_ | refine lw_val rfl (run_fieldAddr Tryd.underlying38 rfl sz3 rfl rfl rfl) ?_
  first | refine lw_val rfl (run_load Tryd.underlying3 rfl rfl (hs.cellAt 0 rfl rfl)) ?_ | refine lw_val rfl (run_load Tryd.underlying3 rfl rfl (hs.cellAt 1 rfl rfl)) ?_ | refine lw_val rfl (run_load Tryd.underlying3 rfl rfl (hs.cellAt 2 rfl rfl)) ?_ | refine lw_val rfl (run_load Tryd.underlying3 rfl rfl (hs.cellAt 3 rfl rfl)) ?_ | refine lw_val rfl (run_load Tryd.underlying3 rfl rfl (hs.cellAt 4 rfl rfl)) ?_ | refine lw_val rfl (run_load Tryd.underlying3 rfl rfl (hs.cellAt 5 rfl rfl)) ?_ | refine lw_val rfl (run_load Tryd.underlying3 rfl rfl (hs.cellAt 6 rfl rfl)) ?_ | refine lw_val rfl (run_load Tryd.underlying3 rfl rfl (hs.cellAt 7 rfl rfl)) ?_ | refine lw_val rfl (run_load Tryd.underlying3 rfl rfl (hs.cellAt 8 rfl rfl)) ?_ | refine lw_val rfl (run_load Tryd.underlying3 rfl rfl (hs.cellAt 9 rfl rfl)) ?_ | refine lw_val rfl (run_load Tryd.underlying3 rfl rfl (hs.cellAt 10 rfl rfl)) ?_ | refine lw_val rfl (run_load Tryd.underlying3 rfl rfl (hs.cellAt 11 rfl rfl)) ?_ | refine lw_val rfl (run_load Tryd.underlying3 rfl rfl (hs.cellAt 12 rfl rfl)) ?_ | refine lw_val rfl (run_load Tryd.underlying3 rfl rfl (hs.cellAt 13 rfl rfl)) ?_
  first | refine lw_val rfl (run_fieldAddr (o' := 2) Tryd.underlying38 rfl sz36 rfl rfl rfl) ?_ | refine lw_val rfl (run_fieldAddr Tryd.underlying38 rfl sz36 rfl rfl rfl) ?_
  first | refine lw_val rfl (run_load Tryd.underlying36 rfl rfl (hs.cellAt 0 rfl rfl)) ?_ | refine lw_val rfl (run_load Tryd.underlying36 rfl rfl (hs.cellAt 1 rfl rfl)) ?_ | refine lw_val rfl (run_load Tryd.underlying36 rfl rfl (hs.cellAt 2 rfl rfl)) ?_ | refine lw_val rfl (run_load Tryd.underlying36 rfl rfl (hs.cellAt 3 rfl rfl)) ?_ | refine lw_val rfl (run_load Tryd.underlying36 rfl rfl (hs.cellAt 4 rfl rfl)) ?_ | refine lw_val rfl (run_load Tryd.underlying36 rfl rfl (hs.cellAt 5 rfl rfl)) ?_ | refine lw_val rfl (run_load Tryd.underlying36 rfl rfl (hs.cellAt 6 rfl rfl)) ?_ | refine lw_val rfl (run_load Tryd.underlying36 rfl rfl (hs.cellAt 7 rfl rfl)) ?_ | refine lw_val rfl (run_load Tryd.underlying36 rfl rfl (hs.cellAt 8 rfl rfl)) ?_ | refine lw_val rfl (run_load Tryd.underlying36 rfl rfl (hs.cellAt 9 rfl rfl)) ?_ | refine lw_val rfl (run_load Tryd.underlying36 rfl rfl (hs.cellAt 10 rfl rfl)) ?_ | refine lw_val rfl (run_load Tryd.underlying36 rfl rfl (hs.cellAt 11 rfl rfl)) ?_ | refine lw_val rfl (run_load Tryd.underlying36 rfl rfl (hs.cellAt 12 rfl rfl)) ?_ | refine lw_val rfl (run_load Tryd.underlying36 rfl rfl (hs.cellAt 13 rfl rfl)) ?_
  refine lw_call rfl en45 (clComplete_x hE hsm ha ht hs.tail hcl hfl hk hq hr hN h4) ?_
  clear hs
  rintro _ w ⟨rfl, hs⟩
  first | refine lw_val rfl (run_assign (v := errV ad _) rfl) ?_ | refine lw_val rfl (run_assign (v := .nilIface) rfl) ?_
  refine lw_nil ?_
  refine cw_seq ?_
  refine cw_block ?_
  refine cw_seq ?_
  refine cw_region ?_
  first | refine lw_val rfl (run_move (v := errV ad _) rfl) ?_ | refine lw_val rfl (run_move (v := .nilIface) rfl) ?_
  refine lw_val rfl (run_load Tryd.underlying29 rfl rfl (hE.cellW hs 107 (by decide) rfl)) ?_
  refine lw_val rfl (run_eqerr (hE.atW hs) hrc m107 (c := r) (d := 107) rfl rfl) ?_
  first | refine lw_val rfl (run_assign (v := .bool _) rfl) ?_
  refine lw_nil ?_
  refine cw_if rfl ?_ ?_
  · intro h88
    have g88 := of_decide_eq_true h88
    refine cw_seq ?_
    refine cw_region ?_
    first | refine lw_val rfl (run_assign (v := .int .i64 _) rfl) ?_
    first | refine lw_val rfl (run_assign (v := .int .i64 _) rfl) ?_
    first | refine lw_val rfl (run_assign (v := .bool _) rfl) ?_
    first | refine lw_val rfl (run_assign (v := errV ad _) rfl) ?_ | refine lw_val rfl (run_assign (v := .nilIface) rfl) ?_
    refine lw_nil ?_
    refine cw_ret ?_
    first | refine res4 (v := .int .i64 _) (v2 := .int .i64 _) (v3 := .bool _) (v4 := errV ad _) rfl rfl rfl rfl rfl ?_ | refine res4 (v := .int .i64 _) (v2 := .int .i64 _) (v3 := .bool _) (v4 := .nilIface) rfl rfl rfl rfl rfl ?_
    exact ⟨_, rfl, by simp only [if_pos g88, errV_zero]; rw [g88]; rfl, hs⟩
  · intro h88
    have g88 := of_decide_eq_false h88
    refine cw_seq ?_
    refine cw_region ?_
    first | refine lw_val rfl (run_move (v := errV ad _) rfl) ?_ | refine lw_val rfl (run_move (v := .nilIface) rfl) ?_
    first | refine lw_val rfl (run_neerrn (ad := ad) rfl) ?_ | refine lw_val rfl (run_nenn rfl) ?_
    first | refine lw_val rfl (run_assign (v := .bool _) rfl) ?_
    refine lw_nil ?_
    refine cw_if rfl ?_ ?_
    · intro h91
      have g91 := ne_t h91
      refine cw_seq ?_
      refine cw_region ?_
      first | refine lw_val rfl (run_move (v := .int .i64 _) rfl) ?_
      first | refine lw_val rfl (run_move (v := .int .i64 _) rfl) ?_
      first | refine lw_val rfl (run_move (v := errV ad _) rfl) ?_ | refine lw_val rfl (run_move (v := .nilIface) rfl) ?_
      first | refine lw_val rfl (run_assign (v := .int .i64 _) rfl) ?_
      first | refine lw_val rfl (run_assign (v := .int .i64 _) rfl) ?_
      first | refine lw_val rfl (run_assign (v := .bool _) rfl) ?_
      first | refine lw_val rfl (run_assign (v := errV ad _) rfl) ?_ | refine lw_val rfl (run_assign (v := .nilIface) rfl) ?_
      refine lw_nil ?_
      refine cw_ret ?_
      first | refine res4 (v := .int .i64 _) (v2 := .int .i64 _) (v3 := .bool _) (v4 := errV ad _) rfl rfl rfl rfl rfl ?_ | refine res4 (v := .int .i64 _) (v2 := .int .i64 _) (v3 := .bool _) (v4 := .nilIface) rfl rfl rfl rfl rfl ?_
      exact ⟨_, rfl, by simp only [if_neg g88]; rw [decide_eq_false g91], hs⟩
    · intro h91
      have g91 := ne_f h91
      refine cw_seq ?_
      refine cw_region ?_
      first | refine lw_val rfl (run_move (v := .bool _) rfl) ?_
      first | refine lw_val rfl (run_assign (v := .bool _) rfl) ?_
      refine lw_nil ?_
      refine cw_iff rfl (decide_eq_false (by omega)) ?_
      refine cw_skip ?_
      refine cw_seq ?_
      refine cw_region ?_
      first | refine lw_val rfl (run_move (v := .int .i64 _) rfl) ?_
      first | refine lw_val rfl (run_move (v := .int .i64 _) rfl) ?_
      first | refine lw_val rfl (run_assign (v := .int .i64 _) rfl) ?_
      first | refine lw_val rfl (run_assign (v := .int .i64 _) rfl) ?_
      first | refine lw_val rfl (run_assign (v := .bool _) rfl) ?_
      first | refine lw_val rfl (run_assign (v := errV ad _) rfl) ?_ | refine lw_val rfl (run_assign (v := .nilIface) rfl) ?_
      refine lw_nil ?_
      refine cw_ret ?_
      first | refine res4 (v := .int .i64 _) (v2 := .int .i64 _) (v3 := .bool _) (v4 := errV ad _) rfl rfl rfl rfl rfl ?_ | refine res4 (v := .int .i64 _) (v2 := .int .i64 _) (v3 := .bool _) (v4 := .nilIface) rfl rfl rfl rfl rfl ?_
      exact ⟨_, rfl, by simp only [if_neg g88]; rw [decide_eq_true g91, g91, errV_zero], hs⟩
end Go.Proofs.YtjiigajekminaaaDoor
