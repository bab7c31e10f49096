/- PartAnew: the walk. -/
import Derived.Test.YtjiigajekminaaaDoorPL
namespace Go.Proofs.YtjiigajekminaaaDoor
set_option linter.all false
open Go.RowKit
attribute [local irreducible] errV
variable {g w : World} {L M : List HP} {ad : Nat → Addr} {p q : Nat} {st : St}

theorem up_abort (l : List UInt8) (e k c : Nat) : (tw [] (upO l e k) [] c 0).run (St.abort1 1) = (0, tw [] [] [] (c + 1) 0) := by
  rw [run_ok rfl]; simp [St.abort1, tw, upO, aget, adel]
theorem noup_small (s : List Int) (c f : Nat) : (tw [] [] s c f).small := tw_small (fun _ _ h => by simp at h) (fun _ _ h => by simp at h)
set_option maxHeartbeats 2000000 in
set_option maxRecDepth 10000 in
theorem partAnew_sl (hE : ErrG ad g) (hs : Mem g w []) {a : Option Addr} {n c : Nat} {l : List UInt8} {ea ta : Int} (hb : Came g (.slice a n c) (bytesL l)) (hn : n = l.length) :
    Calls Tryd.prog 11 #[.slice a n c, .int .i64 ea, .int .i64 ta] w (Ret fun v w' => v = .bool true ∧ Mem g w' []) := by
  subst hn
  refine calls_cw Tryd.func11 rfl rfl ?_
  skip
  refine cw_seq ?_
  refine cw_region ?_
  first | refine lw_val rfl (run_assign (v := .bool _) rfl) ?_
  refine lw_nil ?_
  refine cw_seq ?_
  refine cw_region ?_
  refine lw_call rfl en28 (first13_sl hE hs) ?_
  clear hs
  rintro _ w ⟨rfl, hs⟩
  first | refine lw_val rfl (run_assign (v := .bool _) rfl) ?_
  refine lw_nil ?_
  refine cw_seq ?_
  refine cw_seq ?_
  refine cw_region ?_
  first | refine lw_val rfl (run_move (v := .bool _) rfl) ?_
  refine lw_val rfl (run_not rfl) ?_
  refine lw_nil ?_
  refine cw_iff rfl (not_f (rfl)) ?_
  refine cw_skip ?_
  refine cw_seq ?_
  refine cw_region ?_
  first | refine lw_val rfl (run_move (v := .int .i64 _) rfl) ?_
  refine lw_call rfl en34 (number_sl hs _ _ (by decide)) ?_
  clear hs
  rintro _ w ⟨e0, he0, rfl, hs⟩
  refine lw_val rfl (run_add64 rfl rfl rfl (inI (by omega) (by omega))) ?_
  first | refine lw_val rfl (run_assign (v := .int .i64 _) rfl) ?_
  refine lw_nil ?_
  refine cw_seq ?_
  refine cw_seq ?_
  refine cw_region ?_
  first | refine lw_val rfl (run_move (v := .slice _ _ _) rfl) ?_
  refine lw_val rfl (run_lenS Tryd.underlying27 rfl) ?_
  refine lw_val rfl (run_gtr rfl rfl) ?_
  first | refine lw_val rfl (run_move (v := .bool _) rfl) ?_
  refine lw_split (t := _) (d := 47) rfl ?_ ?_
  · intro h46
    have g46 := of_decide_eq_true h46
    refine lw_off rfl rfl rfl h46 ?_
    refine lw_off rfl rfl rfl h46 ?_
    refine lw_off rfl rfl rfl h46 ?_
    first | refine lw_val rfl (run_pickT (v := .bool _) rfl h46 rfl) ?_
    first | refine lw_val rfl (run_move (v := .bool _) rfl) ?_
    refine lw_off rfl rfl rfl rfl ?_
    refine lw_off rfl rfl rfl rfl ?_
    first | refine lw_val rfl (run_pickT (v := .bool _) rfl rfl rfl) ?_
    refine lw_nil ?_
    refine cw_ift rfl rfl ?_
    refine cw_seq ?_
    refine cw_region ?_
    first | refine lw_val rfl (run_move (v := .bool _) rfl) ?_
    first | refine lw_val rfl (run_assign (v := .bool _) rfl) ?_
    refine lw_nil ?_
    refine cw_ret ?_
    refine res1 (v := .bool _) rfl rfl ?_
    exact ⟨_, rfl, rfl, hs.nil⟩
  · intro h46
    have g46 := of_decide_eq_false h46
    refine lw_on rfl rfl h46 ?_
    first | refine lw_val rfl (run_move (v := .slice _ _ _) rfl) ?_
    refine lw_on rfl rfl h46 ?_
    refine lw_val rfl (run_lenS Tryd.underlying27 rfl) ?_
    refine lw_on rfl rfl h46 ?_
    refine lw_val rfl (run_eqi rfl rfl) ?_
    first | refine lw_val rfl (run_pickF (v := .bool _) rfl h46 rfl) ?_
    first | refine lw_val rfl (run_move (v := .bool _) rfl) ?_
    refine lw_split (t := _) (d := 52) rfl ?_ ?_
    · intro h50
      have g50 := of_decide_eq_true h50
      refine lw_off rfl rfl rfl h50 ?_
      refine lw_off rfl rfl rfl h50 ?_
      first | refine lw_val rfl (run_pickT (v := .bool _) rfl h50 rfl) ?_
      refine lw_nil ?_
      refine cw_ift rfl rfl ?_
      refine cw_seq ?_
      refine cw_region ?_
      first | refine lw_val rfl (run_move (v := .bool _) rfl) ?_
      first | refine lw_val rfl (run_assign (v := .bool _) rfl) ?_
      refine lw_nil ?_
      refine cw_ret ?_
      refine res1 (v := .bool _) rfl rfl ?_
      exact ⟨_, rfl, rfl, hs.nil⟩
    · intro h50
      have g50 := of_decide_eq_false h50
      have hp := partsN_le (n := l.length) (e := e0 + 1) (by omega)
      refine lw_on rfl rfl h50 ?_
      first | refine lw_val rfl (run_move (v := .bool _) rfl) ?_
      refine lw_on rfl rfl h50 ?_
      refine lw_val rfl (run_not rfl) ?_
      first | refine lw_val rfl (run_pickF (v := .bool _) rfl h50 rfl) ?_
      refine lw_nil ?_
      refine cw_iff rfl (not_f (rfl)) ?_
      refine cw_skip ?_
      refine cw_seq ?_
      refine cw_region ?_
      refine lw_call rfl en21 (new_sl hs) ?_
      clear hs
      rintro _ w ⟨p, rfl, hs⟩
      first | refine lw_val rfl (run_assign (v := .pointer (some _)) rfl) ?_ | refine lw_val rfl (run_assign (v := .pointer none) rfl) ?_
      refine lw_nil ?_
      refine cw_seq ?_
      refine cw_region ?_
      first | refine lw_val rfl (run_move (v := .pointer (some _)) rfl) ?_ | refine lw_val rfl (run_move (v := .pointer none) rfl) ?_
      refine lw_call rfl en35 (clnew_sl (t := 1) hE hs (by omega)) ?_
      clear hs
      rintro _ w ⟨q, rfl, hs⟩
      first | refine lw_val rfl (run_move (v := .tuple _) rfl) ?_
      first | refine lw_val rfl (run_extract (v := .pointer (some _)) rfl rfl) ?_ | refine lw_val rfl (run_extract (v := .pointer none) rfl rfl) ?_
      first | refine lw_val rfl (run_extract (v := errV ad _) rfl rfl) ?_ | refine lw_val rfl (run_extract (v := .nilIface) rfl rfl) ?_
      first | refine lw_val rfl (run_assign (v := .pointer (some _)) rfl) ?_ | refine lw_val rfl (run_assign (v := .pointer none) rfl) ?_
      first | refine lw_val rfl (run_assign (v := errV ad _) rfl) ?_ | refine lw_val rfl (run_assign (v := .nilIface) rfl) ?_
      refine lw_nil ?_
      refine cw_seq ?_
      refine cw_region ?_
      first | refine lw_val rfl (run_move (v := .slice _ _ _) rfl) ?_
      first | refine lw_val rfl (run_move (v := .int .i64 _) rfl) ?_
      refine lw_call rfl en29 (make_sl (each := ((e0 + 1 : Nat) : Int)) hE hs (hb.rd _) rfl (by omega) (inI (by omega) (by omega))) ?_
      clear hs
      rintro _ w ⟨c6, nm, sz, sm, e2, pa, hm, rfl, hs⟩
      rw [show mkR ⟨#[111]⟩ l ((e0 + 1 : Nat) : Int) = _ from mk_ok (by omega) (by omega) (by omega)] at hm; simp only [Prod.mk.injEq] at hm; obtain ⟨hc, rfl, rfl, rfl, rfl, rfl⟩ := hm
      first | refine lw_val rfl (run_move (v := .tuple _) rfl) ?_
      first | refine lw_val rfl (run_extract (v := .agg _) rfl rfl) ?_
      first | refine lw_val rfl (run_extract (v := errV ad _) rfl rfl) ?_ | refine lw_val rfl (run_extract (v := .nilIface) rfl rfl) ?_
      refine lw_alloc hs rfl ze38 ?_
      clear hs
      intro b11 w hs
      try simp only [List.set_cons_succ, List.set_cons_zero] at hs
      first | refine lw_storeRow hs 0 rfl rfl rfl sz38 rfl rfl ?_ | refine lw_storeRow hs 1 rfl rfl rfl sz38 rfl rfl ?_ | refine lw_storeRow hs 2 rfl rfl rfl sz38 rfl rfl ?_ | refine lw_storeRow hs 3 rfl rfl rfl sz38 rfl rfl ?_ | refine lw_storeRow hs 4 rfl rfl rfl sz38 rfl rfl ?_ | refine lw_storeRow hs 5 rfl rfl rfl sz38 rfl rfl ?_ | refine lw_storeRow hs 6 rfl rfl rfl sz38 rfl rfl ?_ | refine lw_storeRow hs 7 rfl rfl rfl sz38 rfl rfl ?_ | refine lw_storeRow hs 8 rfl rfl rfl sz38 rfl rfl ?_ | refine lw_storeRow hs 9 rfl rfl rfl sz38 rfl rfl ?_ | refine lw_storeRow hs 10 rfl rfl rfl sz38 rfl rfl ?_ | refine lw_storeRow hs 11 rfl rfl rfl sz38 rfl rfl ?_ | refine lw_storeRow hs 12 rfl rfl rfl sz38 rfl rfl ?_ | refine lw_storeRow hs 13 rfl rfl rfl sz38 rfl rfl ?_
      clear hs
      intro w hs
      try simp only [List.set_cons_succ, List.set_cons_zero] at hs
      first | refine lw_val rfl (run_assign (v := errV ad _) rfl) ?_ | refine lw_val rfl (run_assign (v := .nilIface) rfl) ?_
      refine lw_nil ?_
      refine cw_seq ?_
      refine cw_seq ?_
      refine cw_region ?_
      first | refine lw_val rfl (run_move (v := .pointer (some _)) rfl) ?_ | refine lw_val rfl (run_move (v := .pointer none) rfl) ?_
      refine lw_val rfl (run_eqpn Tryd.underlying47 rfl rfl) ?_
      first | refine lw_val rfl (run_move (v := .bool _) rfl) ?_
      refine lw_on rfl rfl rfl ?_
      first | refine lw_val rfl (run_move (v := errV ad _) rfl) ?_ | refine lw_val rfl (run_move (v := .nilIface) rfl) ?_
      refine lw_on rfl rfl rfl ?_
      first | refine lw_val rfl (run_neerrn (ad := ad) rfl) ?_ | refine lw_val rfl (run_nenn rfl) ?_
      first | refine lw_val rfl (run_pickF (v := .bool _) rfl rfl rfl) ?_
      first | refine lw_val rfl (run_move (v := .bool _) rfl) ?_
      refine lw_on rfl rfl (rfl) ?_
      first | refine lw_val rfl (run_move (v := errV ad _) rfl) ?_ | refine lw_val rfl (run_move (v := .nilIface) rfl) ?_
      refine lw_on rfl rfl (rfl) ?_
      first | refine lw_val rfl (run_neerrn (ad := ad) rfl) ?_ | refine lw_val rfl (run_nenn rfl) ?_
      first | refine lw_val rfl (run_pickF (v := .bool _) rfl (rfl) rfl) ?_
      refine lw_nil ?_
      refine cw_iff rfl (not_f (decide_eq_true hc.symm)) ?_
      refine cw_skip ?_
      refine cw_seq ?_
      refine cw_region ?_
      first | refine lw_val rfl (run_move (v := .pointer (some _)) rfl) ?_ | refine lw_val rfl (run_move (v := .pointer none) rfl) ?_
      first | refine lw_val rfl (run_loadRow hs 0 rfl Tryd.underlying38 sz38 rfl) ?_ | refine lw_val rfl (run_loadRow hs 1 rfl Tryd.underlying38 sz38 rfl) ?_ | refine lw_val rfl (run_loadRow hs 2 rfl Tryd.underlying38 sz38 rfl) ?_ | refine lw_val rfl (run_loadRow hs 3 rfl Tryd.underlying38 sz38 rfl) ?_ | refine lw_val rfl (run_loadRow hs 4 rfl Tryd.underlying38 sz38 rfl) ?_ | refine lw_val rfl (run_loadRow hs 5 rfl Tryd.underlying38 sz38 rfl) ?_ | refine lw_val rfl (run_loadRow hs 6 rfl Tryd.underlying38 sz38 rfl) ?_ | refine lw_val rfl (run_loadRow hs 7 rfl Tryd.underlying38 sz38 rfl) ?_ | refine lw_val rfl (run_loadRow hs 8 rfl Tryd.underlying38 sz38 rfl) ?_ | refine lw_val rfl (run_loadRow hs 9 rfl Tryd.underlying38 sz38 rfl) ?_ | refine lw_val rfl (run_loadRow hs 10 rfl Tryd.underlying38 sz38 rfl) ?_ | refine lw_val rfl (run_loadRow hs 11 rfl Tryd.underlying38 sz38 rfl) ?_ | refine lw_val rfl (run_loadRow hs 12 rfl Tryd.underlying38 sz38 rfl) ?_ | refine lw_val rfl (run_loadRow hs 13 rfl Tryd.underlying38 sz38 rfl) ?_
      first | refine lw_val rfl (run_move (v := .slice _ _ _) rfl) ?_
      refine lw_call rfl en46 (step_start (st := St.empty) (t := 1) (i := 1) (n := 1) (x := 0) hE ⟨by decide, by decide⟩ (by decide) (hs.arr [1, 2, 0] 3 (by decide)) (by simp [St.empty]) (by simp [St.empty]) (by simp [St.empty]) (fairN (by omega) (by omega) (by omega)) ⟨by decide, by omega⟩ (up_start l (e0 + 1) 0)) ?_
      clear hs
      rintro _ w ⟨rfl, hs⟩
      first | refine lw_val rfl (run_move (v := .tuple _) rfl) ?_
      first | refine lw_val rfl (run_extract (v := .int .i64 _) rfl rfl) ?_
      first | refine lw_val rfl (run_extract (v := .int .i64 _) rfl rfl) ?_
      first | refine lw_val rfl (run_extract (v := .bool _) rfl rfl) ?_
      first | refine lw_val rfl (run_extract (v := errV ad _) rfl rfl) ?_ | refine lw_val rfl (run_extract (v := .nilIface) rfl rfl) ?_
      first | refine lw_val rfl (run_assign (v := .int .i64 _) rfl) ?_
      first | refine lw_val rfl (run_assign (v := .int .i64 _) rfl) ?_
      first | refine lw_val rfl (run_assign (v := .bool _) rfl) ?_
      first | refine lw_val rfl (run_assign (v := errV ad _) rfl) ?_ | refine lw_val rfl (run_assign (v := .nilIface) rfl) ?_
      refine lw_nil ?_
      refine cw_seq ?_
      refine cw_region ?_
      first | refine lw_val rfl (run_assign (v := .int .i64 _) rfl) ?_
      refine lw_nil ?_
      refine cw_seq ?_
      refine cw_region ?_
      first | refine lw_val rfl (run_move (v := .int .i64 _) rfl) ?_
      first | refine lw_val rfl (run_fieldAddr (o' := 4) Tryd.underlying38 rfl sz3 rfl rfl rfl) ?_ | refine lw_val rfl (run_fieldAddr Tryd.underlying38 rfl sz3 rfl rfl rfl) ?_
      first | refine lw_val rfl (run_load Tryd.underlying3 rfl rfl (hs.cellAt 0 rfl rfl)) ?_ | refine lw_val rfl (run_load Tryd.underlying3 rfl rfl (hs.cellAt 1 rfl rfl)) ?_ | refine lw_val rfl (run_load Tryd.underlying3 rfl rfl (hs.cellAt 2 rfl rfl)) ?_ | refine lw_val rfl (run_load Tryd.underlying3 rfl rfl (hs.cellAt 3 rfl rfl)) ?_ | refine lw_val rfl (run_load Tryd.underlying3 rfl rfl (hs.cellAt 4 rfl rfl)) ?_ | refine lw_val rfl (run_load Tryd.underlying3 rfl rfl (hs.cellAt 5 rfl rfl)) ?_ | refine lw_val rfl (run_load Tryd.underlying3 rfl rfl (hs.cellAt 6 rfl rfl)) ?_ | refine lw_val rfl (run_load Tryd.underlying3 rfl rfl (hs.cellAt 7 rfl rfl)) ?_ | refine lw_val rfl (run_load Tryd.underlying3 rfl rfl (hs.cellAt 8 rfl rfl)) ?_ | refine lw_val rfl (run_load Tryd.underlying3 rfl rfl (hs.cellAt 9 rfl rfl)) ?_ | refine lw_val rfl (run_load Tryd.underlying3 rfl rfl (hs.cellAt 10 rfl rfl)) ?_ | refine lw_val rfl (run_load Tryd.underlying3 rfl rfl (hs.cellAt 11 rfl rfl)) ?_ | refine lw_val rfl (run_load Tryd.underlying3 rfl rfl (hs.cellAt 12 rfl rfl)) ?_ | refine lw_val rfl (run_load Tryd.underlying3 rfl rfl (hs.cellAt 13 rfl rfl)) ?_
      refine lw_val rfl (run_add64 rfl rfl rfl (inI (by omega) (by omega))) ?_
      refine lw_call rfl en34 (number_sl hs _ _ ⟨by omega, by omega⟩) ?_
      clear hs
      rintro _ w ⟨at1, hat, rfl, hs⟩
      first | refine lw_val rfl (run_assign (v := .int .i64 _) rfl) ?_
      refine lw_nil ?_
      refine cw_seq ?_
      refine cw_block ?_
      refine cw_loop (X := Nat) [6, 17, 18, 19, 20, 21, 93, 94, 95, 96, 97, 98, 99, 100, 101, 102, 103, 104, 105, 106, 107, 108, 109, 110, 111, 112, 113, 114, 115] (fun x => [(17, .int .i64 (x : Nat))]) (fun x w => x ≤ at1 ∧ Mem g w [clientC q p 1 (x + 1 : Nat), StoreC p (tw [] (upO l (e0 + 1) x) [] (x + 1) 0), cells b11 (planC nO l.length (crcMore 0 l : Nat) (e0 + 1 : Nat) (partsN l.length (e0 + 1) : Nat)) 38]) (fun x => at1 - x) (0) ?_ ?_ ?_
      · exact ⟨rfl, trivial⟩
      · exact ⟨Nat.zero_le _, hs⟩
      clear hs
      rintro x ξ w hI
      obtain ⟨hk, hs⟩ := hI
      refine cw_seq ?_
      refine cw_seq ?_
      refine cw_region ?_
      first | refine lw_val rfl (run_move (v := .int .i64 _) rfl) ?_
      first | refine lw_val rfl (run_move (v := .int .i64 _) rfl) ?_
      refine lw_val rfl (run_lss rfl rfl) ?_
      refine lw_nil ?_
      refine cw_if rfl ?_ ?_
      · intro h95
        have g95 := of_decide_eq_true h95
        refine cw_skip ?_
        refine cw_block ?_
        refine cw_seq ?_
        refine cw_region ?_
        first | refine lw_val rfl (run_move (v := .pointer (some _)) rfl) ?_ | refine lw_val rfl (run_move (v := .pointer none) rfl) ?_
        first | refine lw_val rfl (run_loadRow hs 0 rfl Tryd.underlying38 sz38 rfl) ?_ | refine lw_val rfl (run_loadRow hs 1 rfl Tryd.underlying38 sz38 rfl) ?_ | refine lw_val rfl (run_loadRow hs 2 rfl Tryd.underlying38 sz38 rfl) ?_ | refine lw_val rfl (run_loadRow hs 3 rfl Tryd.underlying38 sz38 rfl) ?_ | refine lw_val rfl (run_loadRow hs 4 rfl Tryd.underlying38 sz38 rfl) ?_ | refine lw_val rfl (run_loadRow hs 5 rfl Tryd.underlying38 sz38 rfl) ?_ | refine lw_val rfl (run_loadRow hs 6 rfl Tryd.underlying38 sz38 rfl) ?_ | refine lw_val rfl (run_loadRow hs 7 rfl Tryd.underlying38 sz38 rfl) ?_ | refine lw_val rfl (run_loadRow hs 8 rfl Tryd.underlying38 sz38 rfl) ?_ | refine lw_val rfl (run_loadRow hs 9 rfl Tryd.underlying38 sz38 rfl) ?_ | refine lw_val rfl (run_loadRow hs 10 rfl Tryd.underlying38 sz38 rfl) ?_ | refine lw_val rfl (run_loadRow hs 11 rfl Tryd.underlying38 sz38 rfl) ?_ | refine lw_val rfl (run_loadRow hs 12 rfl Tryd.underlying38 sz38 rfl) ?_ | refine lw_val rfl (run_loadRow hs 13 rfl Tryd.underlying38 sz38 rfl) ?_
        first | refine lw_val rfl (run_move (v := .slice _ _ _) rfl) ?_
        first | refine lw_val rfl (run_move (v := .int .i64 _) rfl) ?_
        first | refine lw_val rfl (run_move (v := .int .i64 _) rfl) ?_
        refine lw_call rfl en46 (step_part (t := 1) (n := 1) (id := 1) (k := x) (x := 0) hE ⟨by omega, by omega⟩ (by decide) hs (by simp [tw]; omega) (by simp [tw]) (fairN (by omega) (by omega) (by omega)) (by decide) (by omega) (hb.rd _) (up_part l (e0 + 1) x 0 (x + 1) (by omega))) ?_
        clear hs
        rintro _ w ⟨rfl, hs⟩
        first | refine lw_val rfl (run_move (v := .tuple _) rfl) ?_
        first | refine lw_val rfl (run_extract (v := .int .i64 _) rfl rfl) ?_
        first | refine lw_val rfl (run_extract (v := .int .i64 _) rfl rfl) ?_
        first | refine lw_val rfl (run_extract (v := .bool _) rfl rfl) ?_
        first | refine lw_val rfl (run_extract (v := errV ad _) rfl rfl) ?_ | refine lw_val rfl (run_extract (v := .nilIface) rfl rfl) ?_
        first | refine lw_val rfl (run_assign (v := .int .i64 _) rfl) ?_
        first | refine lw_val rfl (run_assign (v := .int .i64 _) rfl) ?_
        first | refine lw_val rfl (run_assign (v := .bool _) rfl) ?_
        first | refine lw_val rfl (run_assign (v := errV ad _) rfl) ?_ | refine lw_val rfl (run_assign (v := .nilIface) rfl) ?_
        refine lw_nil ?_
        refine cw_seq ?_
        refine cw_seq ?_
        refine cw_region ?_
        first | refine lw_val rfl (run_move (v := errV ad _) rfl) ?_ | refine lw_val rfl (run_move (v := .nilIface) rfl) ?_
        first | refine lw_val rfl (run_neerrn (ad := ad) rfl) ?_ | refine lw_val rfl (run_nenn rfl) ?_
        first | refine lw_val rfl (run_move (v := .bool _) rfl) ?_
        refine lw_on rfl rfl (not_f (decide_eq_true rfl)) ?_
        first | refine lw_val rfl (run_move (v := .int .i64 _) rfl) ?_
        refine lw_on rfl rfl (not_f (decide_eq_true rfl)) ?_
        first | refine lw_val rfl (run_move (v := .int .i64 _) rfl) ?_
        refine lw_on rfl rfl (not_f (decide_eq_true rfl)) ?_
        refine lw_val rfl (run_add64 rfl rfl rfl (inI (by omega) (by omega))) ?_
        refine lw_on rfl rfl (not_f (decide_eq_true rfl)) ?_
        refine lw_val rfl (run_nei rfl rfl) ?_
        first | refine lw_val rfl (run_pickF (v := .bool _) rfl (not_f (decide_eq_true rfl)) rfl) ?_
        refine lw_nil ?_
        refine cw_iff rfl (not_f (decide_eq_true rfl)) ?_
        refine cw_skip ?_
        refine cw_region ?_
        first | refine lw_val rfl (run_move (v := .int .i64 _) rfl) ?_
        first | refine lw_val rfl (run_assign (v := .int .i64 _) rfl) ?_
        refine lw_nil ?_
        exact ⟨x + 1, by omega, ⟨by omega, hs⟩, ⟨rfl, trivial⟩, by repeat (first | exact Out.mix _ _ _ | refine Out.updo rfl ?_ | refine Out.upd rfl ?_)⟩
      · intro h95
        have g95 := of_decide_eq_false h95
        refine cw_exit rfl ?_
        refine cw_seq ?_
        refine cw_seq ?_
        refine cw_region ?_
        first | refine lw_val rfl (run_move (v := errV ad _) rfl) ?_ | refine lw_val rfl (run_move (v := .nilIface) rfl) ?_
        first | refine lw_val rfl (run_neerrn (ad := ad) rfl) ?_ | refine lw_val rfl (run_nenn rfl) ?_
        first | refine lw_val rfl (run_move (v := .bool _) rfl) ?_
        refine lw_on rfl rfl (not_f (decide_eq_true rfl)) ?_
        first | refine lw_val rfl (run_move (v := .pointer (some _)) rfl) ?_ | refine lw_val rfl (run_move (v := .pointer none) rfl) ?_
        refine lw_on rfl rfl (not_f (decide_eq_true rfl)) ?_
        first | refine lw_val rfl (run_move (v := .int .i64 _) rfl) ?_
        refine lw_on rfl rfl (not_f (decide_eq_true rfl)) ?_
        refine lw_call rfl en47 (abort_sl hE (hs.pick 1 rfl) (by simp [tw]; omega) (by simp [tw]) (up_abort l (e0 + 1) x (x + 1))) ?_
        clear hs
        rintro _ w ⟨rfl, hs⟩
        refine lw_on rfl rfl (not_f (decide_eq_true rfl)) ?_
        first | refine lw_val rfl (run_neerrn (ad := ad) rfl) ?_ | refine lw_val rfl (run_nenn rfl) ?_
        first | refine lw_val rfl (run_pickF (v := .bool _) rfl (not_f (decide_eq_true rfl)) rfl) ?_
        refine lw_nil ?_
        refine cw_iff rfl (not_f (decide_eq_true rfl)) ?_
        refine cw_skip ?_
        refine cw_seq ?_
        refine cw_region ?_
        first | refine lw_val rfl (run_move (v := .pointer (some _)) rfl) ?_ | refine lw_val rfl (run_move (v := .pointer none) rfl) ?_
        first | refine lw_val rfl (run_loadRow hs 0 rfl Tryd.underlying38 sz38 rfl) ?_ | refine lw_val rfl (run_loadRow hs 1 rfl Tryd.underlying38 sz38 rfl) ?_ | refine lw_val rfl (run_loadRow hs 2 rfl Tryd.underlying38 sz38 rfl) ?_ | refine lw_val rfl (run_loadRow hs 3 rfl Tryd.underlying38 sz38 rfl) ?_ | refine lw_val rfl (run_loadRow hs 4 rfl Tryd.underlying38 sz38 rfl) ?_ | refine lw_val rfl (run_loadRow hs 5 rfl Tryd.underlying38 sz38 rfl) ?_ | refine lw_val rfl (run_loadRow hs 6 rfl Tryd.underlying38 sz38 rfl) ?_ | refine lw_val rfl (run_loadRow hs 7 rfl Tryd.underlying38 sz38 rfl) ?_ | refine lw_val rfl (run_loadRow hs 8 rfl Tryd.underlying38 sz38 rfl) ?_ | refine lw_val rfl (run_loadRow hs 9 rfl Tryd.underlying38 sz38 rfl) ?_ | refine lw_val rfl (run_loadRow hs 10 rfl Tryd.underlying38 sz38 rfl) ?_ | refine lw_val rfl (run_loadRow hs 11 rfl Tryd.underlying38 sz38 rfl) ?_ | refine lw_val rfl (run_loadRow hs 12 rfl Tryd.underlying38 sz38 rfl) ?_ | refine lw_val rfl (run_loadRow hs 13 rfl Tryd.underlying38 sz38 rfl) ?_
        first | refine lw_val rfl (run_move (v := .slice _ _ _) rfl) ?_
        first | refine lw_val rfl (run_move (v := .int .i64 _) rfl) ?_
        first | refine lw_val rfl (run_move (v := .int .i64 _) rfl) ?_
        refine lw_call rfl en46 (step_gone (name := nO) (k := x) hE (noup_small _ _ _) rfl rfl (by simp [tw]; omega) (by simp [tw]) (fairN (by omega) (by omega) (by omega)) (by omega) ⟨by omega, by omega⟩ (hs.arr [1, 0, 2] 3 (by decide)) (hb.rd _)) ?_
        clear hs
        rintro _ w ⟨rfl, hs⟩
        first | refine lw_val rfl (run_move (v := .tuple _) rfl) ?_
        first | refine lw_val rfl (run_extract (v := .int .i64 _) rfl rfl) ?_
        first | refine lw_val rfl (run_extract (v := .int .i64 _) rfl rfl) ?_
        first | refine lw_val rfl (run_extract (v := .bool _) rfl rfl) ?_
        first | refine lw_val rfl (run_extract (v := errV ad _) rfl rfl) ?_ | refine lw_val rfl (run_extract (v := .nilIface) rfl rfl) ?_
        first | refine lw_val rfl (run_assign (v := .int .i64 _) rfl) ?_
        first | refine lw_val rfl (run_assign (v := .int .i64 _) rfl) ?_
        first | refine lw_val rfl (run_assign (v := .bool _) rfl) ?_
        first | refine lw_val rfl (run_assign (v := errV ad _) rfl) ?_ | refine lw_val rfl (run_assign (v := .nilIface) rfl) ?_
        refine lw_nil ?_
        refine cw_seq ?_
        refine cw_drawS mixes hs ?_
        intro w tr hK
        replace hs := tr _ hs
        clear tr
        first | refine aw_take 0 rfl (by kernel_rfl) (by kernel_rfl) (by kernel_rfl) rfl (fun w hs => run_move (v := .pointer (some _)) rfl) hK ?_ | refine aw_take 0 rfl (by kernel_rfl) (by kernel_rfl) (by kernel_rfl) rfl (fun w hs => run_move (v := .pointer none) rfl) hK ?_
        first | refine aw_take 1 rfl (by kernel_rfl) (by kernel_rfl) (by kernel_rfl) rfl (fun w hs => run_loadRow hs 0 rfl Tryd.underlying38 sz38 rfl) hK ?_ | refine aw_take 1 rfl (by kernel_rfl) (by kernel_rfl) (by kernel_rfl) rfl (fun w hs => run_loadRow hs 1 rfl Tryd.underlying38 sz38 rfl) hK ?_ | refine aw_take 1 rfl (by kernel_rfl) (by kernel_rfl) (by kernel_rfl) rfl (fun w hs => run_loadRow hs 2 rfl Tryd.underlying38 sz38 rfl) hK ?_ | refine aw_take 1 rfl (by kernel_rfl) (by kernel_rfl) (by kernel_rfl) rfl (fun w hs => run_loadRow hs 3 rfl Tryd.underlying38 sz38 rfl) hK ?_ | refine aw_take 1 rfl (by kernel_rfl) (by kernel_rfl) (by kernel_rfl) rfl (fun w hs => run_loadRow hs 4 rfl Tryd.underlying38 sz38 rfl) hK ?_ | refine aw_take 1 rfl (by kernel_rfl) (by kernel_rfl) (by kernel_rfl) rfl (fun w hs => run_loadRow hs 5 rfl Tryd.underlying38 sz38 rfl) hK ?_ | refine aw_take 1 rfl (by kernel_rfl) (by kernel_rfl) (by kernel_rfl) rfl (fun w hs => run_loadRow hs 6 rfl Tryd.underlying38 sz38 rfl) hK ?_ | refine aw_take 1 rfl (by kernel_rfl) (by kernel_rfl) (by kernel_rfl) rfl (fun w hs => run_loadRow hs 7 rfl Tryd.underlying38 sz38 rfl) hK ?_ | refine aw_take 1 rfl (by kernel_rfl) (by kernel_rfl) (by kernel_rfl) rfl (fun w hs => run_loadRow hs 8 rfl Tryd.underlying38 sz38 rfl) hK ?_ | refine aw_take 1 rfl (by kernel_rfl) (by kernel_rfl) (by kernel_rfl) rfl (fun w hs => run_loadRow hs 9 rfl Tryd.underlying38 sz38 rfl) hK ?_ | refine aw_take 1 rfl (by kernel_rfl) (by kernel_rfl) (by kernel_rfl) rfl (fun w hs => run_loadRow hs 10 rfl Tryd.underlying38 sz38 rfl) hK ?_ | refine aw_take 1 rfl (by kernel_rfl) (by kernel_rfl) (by kernel_rfl) rfl (fun w hs => run_loadRow hs 11 rfl Tryd.underlying38 sz38 rfl) hK ?_ | refine aw_take 1 rfl (by kernel_rfl) (by kernel_rfl) (by kernel_rfl) rfl (fun w hs => run_loadRow hs 12 rfl Tryd.underlying38 sz38 rfl) hK ?_ | refine aw_take 1 rfl (by kernel_rfl) (by kernel_rfl) (by kernel_rfl) rfl (fun w hs => run_loadRow hs 13 rfl Tryd.underlying38 sz38 rfl) hK ?_
        first | refine aw_take 2 rfl (by kernel_rfl) (by kernel_rfl) (by kernel_rfl) rfl (fun w hs => run_move (v := .slice _ _ _) rfl) hK ?_
        refine aw_take 3 rfl (by kernel_rfl) (by kernel_rfl) (by kernel_rfl) rfl (fun w hs => run_sliceFrom Tryd.underlying27 sz5 rfl rfl (len := l.length) (lo := 1) rfl (by omega)) hK ?_
        first | refine aw_take 4 rfl (by kernel_rfl) (by kernel_rfl) (by kernel_rfl) rfl (fun w hs => run_move (v := .int .i64 _) rfl) hK ?_
        first | refine aw_take 5 rfl (by kernel_rfl) (by kernel_rfl) (by kernel_rfl) rfl (fun w hs => run_move (v := .int .i64 _) rfl) hK ?_
        refine aw_ready [6] (by kernel_rfl) (by simp) ?_
        refine ⟨⟨_, rfl, ?_⟩, trivial⟩
        refine lw_call rfl en46 (step_bad hE hs (fairN (by omega) (by omega) (by omega)) (.inl (by omega))) ?_
        clear hs
        rintro _ w ⟨rfl, hs⟩
        clear hK
        have hK := hs
        refine lw_nil ⟨hK, ?_⟩
        first | refine aw_take 7 rfl (by kernel_rfl) (by kernel_rfl) (by kernel_rfl) rfl (fun w hs => run_move (v := .tuple _) rfl) hK ?_
        first | refine aw_take 8 rfl (by kernel_rfl) (by kernel_rfl) (by kernel_rfl) rfl (fun w hs => run_extract (v := .int .i64 _) rfl rfl) hK ?_
        first | refine aw_take 9 rfl (by kernel_rfl) (by kernel_rfl) (by kernel_rfl) rfl (fun w hs => run_extract (v := .int .i64 _) rfl rfl) hK ?_
        first | refine aw_take 10 rfl (by kernel_rfl) (by kernel_rfl) (by kernel_rfl) rfl (fun w hs => run_extract (v := .bool _) rfl rfl) hK ?_
        first | refine aw_take 11 rfl (by kernel_rfl) (by kernel_rfl) (by kernel_rfl) rfl (fun w hs => run_extract (v := errV ad _) rfl rfl) hK ?_ | refine aw_take 11 rfl (by kernel_rfl) (by kernel_rfl) (by kernel_rfl) rfl (fun w hs => run_extract (v := .nilIface) rfl rfl) hK ?_
        first | refine aw_take 12 rfl (by kernel_rfl) (by kernel_rfl) (by kernel_rfl) rfl (fun w hs => run_assign (v := .int .i64 _) rfl) hK ?_
        first | refine aw_take 13 rfl (by kernel_rfl) (by kernel_rfl) (by kernel_rfl) rfl (fun w hs => run_assign (v := .int .i64 _) rfl) hK ?_
        first | refine aw_take 14 rfl (by kernel_rfl) (by kernel_rfl) (by kernel_rfl) rfl (fun w hs => run_assign (v := .bool _) rfl) hK ?_
        first | refine aw_take 15 rfl (by kernel_rfl) (by kernel_rfl) (by kernel_rfl) rfl (fun w hs => run_assign (v := errV ad _) rfl) hK ?_ | refine aw_take 15 rfl (by kernel_rfl) (by kernel_rfl) (by kernel_rfl) rfl (fun w hs => run_assign (v := .nilIface) rfl) hK ?_
        refine aw_done (by kernel_rfl) ?_
        clear hK
        refine cw_seq ?_
        refine cw_region ?_
        first | refine lw_val rfl (run_move (v := .pointer (some _)) rfl) ?_ | refine lw_val rfl (run_move (v := .pointer none) rfl) ?_
        first | refine lw_val rfl (run_loadRow hs 0 rfl Tryd.underlying38 sz38 rfl) ?_ | refine lw_val rfl (run_loadRow hs 1 rfl Tryd.underlying38 sz38 rfl) ?_ | refine lw_val rfl (run_loadRow hs 2 rfl Tryd.underlying38 sz38 rfl) ?_ | refine lw_val rfl (run_loadRow hs 3 rfl Tryd.underlying38 sz38 rfl) ?_ | refine lw_val rfl (run_loadRow hs 4 rfl Tryd.underlying38 sz38 rfl) ?_ | refine lw_val rfl (run_loadRow hs 5 rfl Tryd.underlying38 sz38 rfl) ?_ | refine lw_val rfl (run_loadRow hs 6 rfl Tryd.underlying38 sz38 rfl) ?_ | refine lw_val rfl (run_loadRow hs 7 rfl Tryd.underlying38 sz38 rfl) ?_ | refine lw_val rfl (run_loadRow hs 8 rfl Tryd.underlying38 sz38 rfl) ?_ | refine lw_val rfl (run_loadRow hs 9 rfl Tryd.underlying38 sz38 rfl) ?_ | refine lw_val rfl (run_loadRow hs 10 rfl Tryd.underlying38 sz38 rfl) ?_ | refine lw_val rfl (run_loadRow hs 11 rfl Tryd.underlying38 sz38 rfl) ?_ | refine lw_val rfl (run_loadRow hs 12 rfl Tryd.underlying38 sz38 rfl) ?_ | refine lw_val rfl (run_loadRow hs 13 rfl Tryd.underlying38 sz38 rfl) ?_
        first | refine lw_val rfl (run_move (v := .slice _ _ _) rfl) ?_
        first | refine lw_val rfl (run_move (v := .int .i64 _) rfl) ?_
        first | refine lw_val rfl (run_fieldAddr (o' := 4) Tryd.underlying38 rfl sz3 rfl rfl rfl) ?_ | refine lw_val rfl (run_fieldAddr Tryd.underlying38 rfl sz3 rfl rfl rfl) ?_
        first | refine lw_val rfl (run_load Tryd.underlying3 rfl rfl (hs.cellAt 0 rfl rfl)) ?_ | refine lw_val rfl (run_load Tryd.underlying3 rfl rfl (hs.cellAt 1 rfl rfl)) ?_ | refine lw_val rfl (run_load Tryd.underlying3 rfl rfl (hs.cellAt 2 rfl rfl)) ?_ | refine lw_val rfl (run_load Tryd.underlying3 rfl rfl (hs.cellAt 3 rfl rfl)) ?_ | refine lw_val rfl (run_load Tryd.underlying3 rfl rfl (hs.cellAt 4 rfl rfl)) ?_ | refine lw_val rfl (run_load Tryd.underlying3 rfl rfl (hs.cellAt 5 rfl rfl)) ?_ | refine lw_val rfl (run_load Tryd.underlying3 rfl rfl (hs.cellAt 6 rfl rfl)) ?_ | refine lw_val rfl (run_load Tryd.underlying3 rfl rfl (hs.cellAt 7 rfl rfl)) ?_ | refine lw_val rfl (run_load Tryd.underlying3 rfl rfl (hs.cellAt 8 rfl rfl)) ?_ | refine lw_val rfl (run_load Tryd.underlying3 rfl rfl (hs.cellAt 9 rfl rfl)) ?_ | refine lw_val rfl (run_load Tryd.underlying3 rfl rfl (hs.cellAt 10 rfl rfl)) ?_ | refine lw_val rfl (run_load Tryd.underlying3 rfl rfl (hs.cellAt 11 rfl rfl)) ?_ | refine lw_val rfl (run_load Tryd.underlying3 rfl rfl (hs.cellAt 12 rfl rfl)) ?_ | refine lw_val rfl (run_load Tryd.underlying3 rfl rfl (hs.cellAt 13 rfl rfl)) ?_
        refine lw_val rfl (run_add64 rfl rfl rfl (inI (by omega) (by omega))) ?_
        refine lw_call rfl en46 (step_bad hE hs (fairN (by omega) (by omega) (by omega)) (.inr (.inr (by omega)))) ?_
        clear hs
        rintro _ w ⟨rfl, hs⟩
        first | refine lw_val rfl (run_move (v := .tuple _) rfl) ?_
        first | refine lw_val rfl (run_extract (v := .int .i64 _) rfl rfl) ?_
        first | refine lw_val rfl (run_extract (v := .int .i64 _) rfl rfl) ?_
        first | refine lw_val rfl (run_extract (v := .bool _) rfl rfl) ?_
        first | refine lw_val rfl (run_extract (v := errV ad _) rfl rfl) ?_ | refine lw_val rfl (run_extract (v := .nilIface) rfl rfl) ?_
        first | refine lw_val rfl (run_assign (v := .int .i64 _) rfl) ?_
        first | refine lw_val rfl (run_assign (v := .int .i64 _) rfl) ?_
        first | refine lw_val rfl (run_assign (v := .bool _) rfl) ?_
        first | refine lw_val rfl (run_assign (v := errV ad _) rfl) ?_ | refine lw_val rfl (run_assign (v := .nilIface) rfl) ?_
        refine lw_nil ?_
        refine cw_seq ?_
        refine cw_region ?_
        first | refine lw_val rfl (run_move (v := .pointer (some _)) rfl) ?_ | refine lw_val rfl (run_move (v := .pointer none) rfl) ?_
        first | refine lw_val rfl (run_loadRow hs 0 rfl Tryd.underlying38 sz38 rfl) ?_ | refine lw_val rfl (run_loadRow hs 1 rfl Tryd.underlying38 sz38 rfl) ?_ | refine lw_val rfl (run_loadRow hs 2 rfl Tryd.underlying38 sz38 rfl) ?_ | refine lw_val rfl (run_loadRow hs 3 rfl Tryd.underlying38 sz38 rfl) ?_ | refine lw_val rfl (run_loadRow hs 4 rfl Tryd.underlying38 sz38 rfl) ?_ | refine lw_val rfl (run_loadRow hs 5 rfl Tryd.underlying38 sz38 rfl) ?_ | refine lw_val rfl (run_loadRow hs 6 rfl Tryd.underlying38 sz38 rfl) ?_ | refine lw_val rfl (run_loadRow hs 7 rfl Tryd.underlying38 sz38 rfl) ?_ | refine lw_val rfl (run_loadRow hs 8 rfl Tryd.underlying38 sz38 rfl) ?_ | refine lw_val rfl (run_loadRow hs 9 rfl Tryd.underlying38 sz38 rfl) ?_ | refine lw_val rfl (run_loadRow hs 10 rfl Tryd.underlying38 sz38 rfl) ?_ | refine lw_val rfl (run_loadRow hs 11 rfl Tryd.underlying38 sz38 rfl) ?_ | refine lw_val rfl (run_loadRow hs 12 rfl Tryd.underlying38 sz38 rfl) ?_ | refine lw_val rfl (run_loadRow hs 13 rfl Tryd.underlying38 sz38 rfl) ?_
        first | refine lw_val rfl (run_move (v := .slice _ _ _) rfl) ?_
        first | refine lw_val rfl (run_move (v := .int .i64 _) rfl) ?_
        refine lw_call rfl en46 (step_bad hE hs (fairN (by omega) (by omega) (by omega)) (.inr (.inl (by omega)))) ?_
        clear hs
        rintro _ w ⟨rfl, hs⟩
        first | refine lw_val rfl (run_move (v := .tuple _) rfl) ?_
        first | refine lw_val rfl (run_extract (v := .int .i64 _) rfl rfl) ?_
        first | refine lw_val rfl (run_extract (v := .int .i64 _) rfl rfl) ?_
        first | refine lw_val rfl (run_extract (v := .bool _) rfl rfl) ?_
        first | refine lw_val rfl (run_extract (v := errV ad _) rfl rfl) ?_ | refine lw_val rfl (run_extract (v := .nilIface) rfl rfl) ?_
        first | refine lw_val rfl (run_assign (v := .int .i64 _) rfl) ?_
        first | refine lw_val rfl (run_assign (v := .int .i64 _) rfl) ?_
        first | refine lw_val rfl (run_assign (v := .bool _) rfl) ?_
        first | refine lw_val rfl (run_assign (v := errV ad _) rfl) ?_ | refine lw_val rfl (run_assign (v := .nilIface) rfl) ?_
        refine lw_nil ?_
        refine cw_seq ?_
        refine cw_region ?_
        first | refine lw_val rfl (run_move (v := .int .i64 _) rfl) ?_
        refine lw_val rfl (run_eqi rfl rfl) ?_
        first | refine lw_val rfl (run_move (v := .bool _) rfl) ?_
        refine lw_on rfl rfl (decide_eq_true rfl) ?_
        first | refine lw_val rfl (run_move (v := .int .i64 _) rfl) ?_
        refine lw_on rfl rfl (decide_eq_true rfl) ?_
        refine lw_val rfl (run_eqi rfl rfl) ?_
        first | refine lw_val rfl (run_pickT (v := .bool _) rfl (decide_eq_true rfl) rfl) ?_
        first | refine lw_val rfl (run_move (v := .bool _) rfl) ?_
        refine lw_on rfl rfl (decide_eq_true rfl) ?_
        first | refine lw_val rfl (run_move (v := .bool _) rfl) ?_
        refine lw_on rfl rfl (decide_eq_true rfl) ?_
        refine lw_val rfl (run_not rfl) ?_
        first | refine lw_val rfl (run_pickT (v := .bool _) rfl (decide_eq_true rfl) rfl) ?_
        first | refine lw_val rfl (run_move (v := .bool _) rfl) ?_
        refine lw_on rfl rfl (not_t (rfl)) ?_
        first | refine lw_val rfl (run_move (v := errV ad _) rfl) ?_ | refine lw_val rfl (run_move (v := .nilIface) rfl) ?_
        refine lw_on rfl rfl (not_t (rfl)) ?_
        first | refine lw_val rfl (run_eqerrn (ad := ad) rfl) ?_ | refine lw_val rfl (run_eqnn rfl) ?_
        first | refine lw_val rfl (run_pickT (v := .bool _) rfl (not_t (rfl)) rfl) ?_
        first | refine lw_val rfl (run_move (v := .bool _) rfl) ?_
        refine lw_on rfl rfl (decide_eq_true rfl) ?_
        first | refine lw_val rfl (run_move (v := errV ad _) rfl) ?_ | refine lw_val rfl (run_move (v := .nilIface) rfl) ?_
        refine lw_on rfl rfl (decide_eq_true rfl) ?_
        refine lw_call rfl en25 (is_sl hE hs (d := 105) (.inr m105) _) ?_
        clear hs
        rintro _ w ⟨rfl, hs⟩
        first | refine lw_val rfl (run_pickT (v := .bool _) rfl (decide_eq_true rfl) rfl) ?_
        first | refine lw_val rfl (run_move (v := .bool _) rfl) ?_
        refine lw_on rfl rfl (decide_eq_true rfl) ?_
        first | refine lw_val rfl (run_move (v := errV ad _) rfl) ?_ | refine lw_val rfl (run_move (v := .nilIface) rfl) ?_
        refine lw_on rfl rfl (decide_eq_true rfl) ?_
        refine lw_call rfl en25 (is_sl hE hs (d := 105) (.inr m105) _) ?_
        clear hs
        rintro _ w ⟨rfl, hs⟩
        first | refine lw_val rfl (run_pickT (v := .bool _) rfl (decide_eq_true rfl) rfl) ?_
        first | refine lw_val rfl (run_move (v := .bool _) rfl) ?_
        refine lw_on rfl rfl (decide_eq_true rfl) ?_
        first | refine lw_val rfl (run_move (v := errV ad _) rfl) ?_ | refine lw_val rfl (run_move (v := .nilIface) rfl) ?_
        refine lw_on rfl rfl (decide_eq_true rfl) ?_
        refine lw_call rfl en25 (is_sl hE hs (d := 105) (.inr m105) _) ?_
        clear hs
        rintro _ w ⟨rfl, hs⟩
        first | refine lw_val rfl (run_pickT (v := .bool _) rfl (decide_eq_true rfl) rfl) ?_
        first | refine lw_val rfl (run_assign (v := .bool _) rfl) ?_
        refine lw_nil ?_
        refine cw_ret ?_
        refine res1 (v := .bool _) rfl rfl ?_
        exact ⟨_, rfl, ret_b (decide_eq_true rfl), hs.nil⟩
end Go.Proofs.YtjiigajekminaaaDoor
