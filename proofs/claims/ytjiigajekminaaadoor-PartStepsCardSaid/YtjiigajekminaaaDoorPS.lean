/- PartSteps: the walk. -/
import Derived.Test.YtjiigajekminaaaDoorOp
import Derived.Test.YtjiigajekminaaaDoorPSS
namespace Go.Proofs.YtjiigajekminaaaDoor
set_option linter.all false
open Go.RowKit
attribute [local irreducible] errV
variable {g w : World} {L M : List HP} {ad : Nat → Addr} {p q : Nat} {st : St}

theorem among_sl (hs : Mem g w L) {a : Option Addr} {n c : Nat} {l : List Int} {k : Int} (ha : Rd g L (.slice a n c) (intsL l)) (hn : n = l.length) (hlen : l.length ≤ 1073741824) :
    Calls Tryd.prog 65 #[.slice a n c, .int .i64 k] w (Ret fun v w' => v = .bool (decide (k ∈ l)) ∧ Mem g w' L) := by
  subst hn
  refine calls_cw Tryd.func65 rfl rfl ?_
  skip
  refine cw_seq ?_
  refine cw_region ?_
  first | refine lw_val rfl (run_assign (v := .bool _) rfl) ?_
  refine lw_nil ?_
  refine cw_seq ?_
  refine cw_seq ?_
  refine cw_region ?_
  first | refine lw_val rfl (run_assign (v := .int .i64 _) rfl) ?_
  refine lw_nil ?_
  refine cw_block ?_
  refine cw_loop (X := Nat) [4, 5, 6, 7, 8, 9, 10, 11, 12, 13, 14, 15, 16, 17] (fun i => [(5, .int .i64 (i : Nat))]) (fun i w => i ≤ l.length ∧ k ∉ l.take i ∧ Mem g w L) (fun i => l.length - i) (0) ?_ ?_ ?_
  · exact ⟨rfl, trivial⟩
  · exact ⟨Nat.zero_le _, by simp, hs⟩
  clear hs
  rintro x ξ w hI
  obtain ⟨hk, hq, hs⟩ := hI
  refine cw_seq ?_
  refine cw_seq ?_
  refine cw_region ?_
  first | refine lw_val rfl (run_move (v := .int .i64 _) rfl) ?_
  first | refine lw_val rfl (run_move (v := .slice _ _ _) rfl) ?_
  refine lw_val rfl (run_lenS Tryd.underlying22 rfl) ?_
  refine lw_val rfl (run_lss rfl rfl) ?_
  refine lw_nil ?_
  refine cw_if rfl ?_ ?_
  · intro h9
    have g9 := of_decide_eq_true h9
    obtain ⟨xa, hxa⟩ : ∃ xa, l[x]? = some xa := ⟨l[x]'(by omega), List.getElem?_eq_getElem _⟩
    obtain ⟨b1, o1, rfl, _⟩ := ha.cells' hs (by simp [intsL]; omega)
    refine cw_skip ?_
    refine cw_seq ?_
    refine cw_block ?_
    refine cw_seq ?_
    refine cw_region ?_
    first | refine lw_val rfl (run_move (v := .slice _ _ _) rfl) ?_
    first | refine lw_val rfl (run_move (v := .int .i64 _) rfl) ?_
    refine lw_val rfl (run_indexAddr Tryd.underlying22 sz3 rfl rfl rfl (by omega) rfl) ?_
    refine lw_val rfl (run_load Tryd.underlying3 rfl rfl (ha.cellAt hs (show (intsL l)[x]? = some (.int .i64 xa) by simp [intsL, hxa]))) ?_
    first | refine lw_val rfl (run_move (v := .int .i64 _) rfl) ?_
    refine lw_val rfl (run_eqi rfl rfl) ?_
    refine lw_nil ?_
    refine cw_if rfl ?_ ?_
    · intro h17
      have g17 := of_decide_eq_true h17
      refine cw_seq ?_
      refine cw_region ?_
      first | refine lw_val rfl (run_assign (v := .bool _) rfl) ?_
      refine lw_nil ?_
      refine cw_ret ?_
      refine res1 (v := .bool _) rfl rfl ?_
      exact ⟨_, rfl, ret_b (decide_eq_true (by rw [← g17]; exact List.mem_of_getElem? hxa)).symm, hs⟩
    · intro h17
      have g17 := of_decide_eq_false h17
      refine cw_skip ?_
      refine cw_region ?_
      first | refine lw_val rfl (run_move (v := .int .i64 _) rfl) ?_
      refine lw_val rfl (run_add64 rfl rfl rfl (inI (by omega) (by omega))) ?_
      first | refine lw_val rfl (run_assign (v := .int .i64 _) rfl) ?_
      refine lw_nil ?_
      exact ⟨x + 1, by omega, ⟨by omega, by rw [List.take_add_one, hxa]; simp only [Option.toList, List.mem_append, List.mem_cons, List.not_mem_nil, or_false, not_or]; exact ⟨hq, fun e => g17 e.symm⟩, hs⟩, ⟨rfl, trivial⟩, by repeat (first | exact Out.mix _ _ _ | refine Out.updo rfl ?_ | refine Out.upd rfl ?_)⟩
  · intro h9
    have g9 := of_decide_eq_false h9
    refine cw_exit rfl ?_
    refine cw_seq ?_
    refine cw_region ?_
    first | refine lw_val rfl (run_assign (v := .bool _) rfl) ?_
    refine lw_nil ?_
    refine cw_ret ?_
    refine res1 (v := .bool _) rfl rfl ?_
    have e : x = l.length := by omega
    rw [e, List.take_length] at hq
    exact ⟨_, rfl, ret_b (decide_eq_false hq).symm, hs⟩
def LoopPS (l : List UInt8) (e : Nat) (i : Nat) (id : Int) (done : Nat) (over : Bool) (st : St) (a : Nat) : Prop := i ≤ 400 ∧ ((over = true ∧ POver l i id st a) ∨ (over = false ∧ PSt l e i id done st a))
theorem mem_sortI {l : List Int} {x : Int} : x ∈ sortI l ↔ x ∈ l := by unfold sortI; exact List.mem_mergeSort
theorem sortI_len (l : List Int) : (sortI l).length = l.length := by unfold sortI; exact List.length_mergeSort _
set_option maxHeartbeats 2000000 in
set_option maxRecDepth 10000 in
theorem partSteps_sl (hA : ErrA ad g) (hs : Mem g w []) {a b : Option Addr} {n m c d : Nat} {l : List UInt8} {outs : List Int} {ea : Int} (hb : Came g (.slice a n c) (bytesL l)) (ho : Came g (.slice b m d) (intsL outs)) (hn : n = l.length) (hm : m = outs.length) :
    Calls Tryd.prog 18 #[.slice a n c, .int .i64 ea, .slice b m d] w (Ret fun v w' => v = .bool true ∧ Mem g w' []) := by
  subst hn hm
  have hE := hA.core
  refine calls_cw Tryd.func18 rfl rfl ?_
  skip
  refine cw_seq ?_
  refine cw_region ?_
  first | refine lw_val rfl (run_assign (v := .bool _) rfl) ?_
  refine lw_nil ?_
  refine cw_seq ?_
  refine cw_region ?_
  refine lw_call rfl en28 (first13_sl hE hs) ?_
  clear hs
  rintro _ w ⟨rfl, hs⟩
  first | refine lw_val rfl (run_assign (v := .bool _) rfl) ?_
  refine lw_nil ?_
  refine cw_seq ?_
  refine cw_seq ?_
  refine cw_region ?_
  first | refine lw_val rfl (run_move (v := .bool _) rfl) ?_
  refine lw_val rfl (run_not rfl) ?_
  refine lw_nil ?_
  refine cw_iff rfl (not_f (rfl)) ?_
  refine cw_skip ?_
  refine cw_seq ?_
  refine cw_region ?_
  first | refine lw_val rfl (run_move (v := .int .i64 _) rfl) ?_
  refine lw_call rfl en34 (number_sl hs _ _ (by decide)) ?_
  clear hs
  rintro _ w ⟨e0, he0, rfl, hs⟩
  refine lw_val rfl (run_add64 rfl rfl rfl (inI (by omega) (by omega))) ?_
  first | refine lw_val rfl (run_assign (v := .int .i64 _) rfl) ?_
  refine lw_nil ?_
  refine cw_seq ?_
  refine cw_seq ?_
  refine cw_region ?_
  first | refine lw_val rfl (run_move (v := .slice _ _ _) rfl) ?_
  refine lw_val rfl (run_lenS Tryd.underlying27 rfl) ?_
  refine lw_val rfl (run_gtr rfl rfl) ?_
  first | refine lw_val rfl (run_move (v := .bool _) rfl) ?_
  refine lw_split (t := _) (d := 32) rfl ?_ ?_
  · intro h31
    have g31 := of_decide_eq_true h31
    refine lw_off rfl rfl rfl h31 ?_
    refine lw_off rfl rfl rfl h31 ?_
    refine lw_off rfl rfl rfl h31 ?_
    first | refine lw_val rfl (run_pickT (v := .bool _) rfl h31 rfl) ?_
    first | refine lw_val rfl (run_move (v := .bool _) rfl) ?_
    refine lw_off rfl rfl rfl rfl ?_
    refine lw_off rfl rfl rfl rfl ?_
    first | refine lw_val rfl (run_pickT (v := .bool _) rfl rfl rfl) ?_
    refine lw_nil ?_
    refine cw_ift rfl rfl ?_
    refine cw_seq ?_
    refine cw_region ?_
    first | refine lw_val rfl (run_move (v := .bool _) rfl) ?_
    first | refine lw_val rfl (run_assign (v := .bool _) rfl) ?_
    refine lw_nil ?_
    refine cw_ret ?_
    refine res1 (v := .bool _) rfl rfl ?_
    exact ⟨_, rfl, rfl, hs.nil⟩
  · intro h31
    have g31 := of_decide_eq_false h31
    refine lw_on rfl rfl h31 ?_
    first | refine lw_val rfl (run_move (v := .slice _ _ _) rfl) ?_
    refine lw_on rfl rfl h31 ?_
    refine lw_val rfl (run_lenS Tryd.underlying22 rfl) ?_
    refine lw_on rfl rfl h31 ?_
    refine lw_val rfl (run_gtr rfl rfl) ?_
    first | refine lw_val rfl (run_pickF (v := .bool _) rfl h31 rfl) ?_
    first | refine lw_val rfl (run_move (v := .bool _) rfl) ?_
    refine lw_split (t := _) (d := 37) rfl ?_ ?_
    · intro h35
      have g35 := of_decide_eq_true h35
      refine lw_off rfl rfl rfl h35 ?_
      refine lw_off rfl rfl rfl h35 ?_
      first | refine lw_val rfl (run_pickT (v := .bool _) rfl h35 rfl) ?_
      refine lw_nil ?_
      refine cw_ift rfl rfl ?_
      refine cw_seq ?_
      refine cw_region ?_
      first | refine lw_val rfl (run_move (v := .bool _) rfl) ?_
      first | refine lw_val rfl (run_assign (v := .bool _) rfl) ?_
      refine lw_nil ?_
      refine cw_ret ?_
      refine res1 (v := .bool _) rfl rfl ?_
      exact ⟨_, rfl, rfl, hs.nil⟩
    · intro h35
      have g35 := of_decide_eq_false h35
      have hp := partsN_le (n := l.length) (e := e0 + 1) (by omega)
      refine lw_on rfl rfl h35 ?_
      first | refine lw_val rfl (run_move (v := .bool _) rfl) ?_
      refine lw_on rfl rfl h35 ?_
      refine lw_val rfl (run_not rfl) ?_
      first | refine lw_val rfl (run_pickF (v := .bool _) rfl h35 rfl) ?_
      refine lw_nil ?_
      refine cw_iff rfl (not_f (rfl)) ?_
      refine cw_skip ?_
      refine cw_seq ?_
      refine cw_region ?_
      refine lw_call rfl en21 (new_sl hs) ?_
      clear hs
      rintro _ w ⟨p, rfl, hs⟩
      first | refine lw_val rfl (run_assign (v := .pointer (some _)) rfl) ?_ | refine lw_val rfl (run_assign (v := .pointer none) rfl) ?_
      refine lw_nil ?_
      refine cw_seq ?_
      refine cw_region ?_
      first | refine lw_val rfl (run_move (v := .pointer (some _)) rfl) ?_ | refine lw_val rfl (run_move (v := .pointer none) rfl) ?_
      refine lw_call rfl en35 (clnew_sl (t := 2) hE hs (by omega)) ?_
      clear hs
      rintro _ w ⟨q, rfl, hs⟩
      first | refine lw_val rfl (run_move (v := .tuple _) rfl) ?_
      first | refine lw_val rfl (run_extract (v := .pointer (some _)) rfl rfl) ?_ | refine lw_val rfl (run_extract (v := .pointer none) rfl rfl) ?_
      first | refine lw_val rfl (run_extract (v := errV ad _) rfl rfl) ?_ | refine lw_val rfl (run_extract (v := .nilIface) rfl rfl) ?_
      first | refine lw_val rfl (run_assign (v := .pointer (some _)) rfl) ?_ | refine lw_val rfl (run_assign (v := .pointer none) rfl) ?_
      first | refine lw_val rfl (run_assign (v := errV ad _) rfl) ?_ | refine lw_val rfl (run_assign (v := .nilIface) rfl) ?_
      refine lw_nil ?_
      refine cw_seq ?_
      refine cw_region ?_
      first | refine lw_val rfl (run_move (v := .slice _ _ _) rfl) ?_
      first | refine lw_val rfl (run_move (v := .int .i64 _) rfl) ?_
      refine lw_call rfl en29 (make_sl (each := ((e0 + 1 : Nat) : Int)) hE hs (hb.rd _) rfl (by omega) (inI (by omega) (by omega))) ?_
      clear hs
      rintro _ w ⟨c6, nm, sz, sm, e2, pa, hm, rfl, hs⟩
      rw [show mkR ⟨#[111]⟩ l ((e0 + 1 : Nat) : Int) = _ from mk_ok (by omega) (by omega) (by omega)] at hm; simp only [Prod.mk.injEq] at hm; obtain ⟨hc, rfl, rfl, rfl, rfl, rfl⟩ := hm
      first | refine lw_val rfl (run_move (v := .tuple _) rfl) ?_
      first | refine lw_val rfl (run_extract (v := .agg _) rfl rfl) ?_
      first | refine lw_val rfl (run_extract (v := errV ad _) rfl rfl) ?_ | refine lw_val rfl (run_extract (v := .nilIface) rfl rfl) ?_
      refine lw_alloc hs rfl ze38 ?_
      clear hs
      intro b11 w hs
      try simp only [List.set_cons_succ, List.set_cons_zero] at hs
      first | refine lw_storeRow hs 0 rfl rfl rfl sz38 rfl rfl ?_ | refine lw_storeRow hs 1 rfl rfl rfl sz38 rfl rfl ?_ | refine lw_storeRow hs 2 rfl rfl rfl sz38 rfl rfl ?_ | refine lw_storeRow hs 3 rfl rfl rfl sz38 rfl rfl ?_ | refine lw_storeRow hs 4 rfl rfl rfl sz38 rfl rfl ?_ | refine lw_storeRow hs 5 rfl rfl rfl sz38 rfl rfl ?_ | refine lw_storeRow hs 6 rfl rfl rfl sz38 rfl rfl ?_ | refine lw_storeRow hs 7 rfl rfl rfl sz38 rfl rfl ?_ | refine lw_storeRow hs 8 rfl rfl rfl sz38 rfl rfl ?_ | refine lw_storeRow hs 9 rfl rfl rfl sz38 rfl rfl ?_ | refine lw_storeRow hs 10 rfl rfl rfl sz38 rfl rfl ?_ | refine lw_storeRow hs 11 rfl rfl rfl sz38 rfl rfl ?_ | refine lw_storeRow hs 12 rfl rfl rfl sz38 rfl rfl ?_ | refine lw_storeRow hs 13 rfl rfl rfl sz38 rfl rfl ?_
      clear hs
      intro w hs
      try simp only [List.set_cons_succ, List.set_cons_zero] at hs
      first | refine lw_val rfl (run_assign (v := errV ad _) rfl) ?_ | refine lw_val rfl (run_assign (v := .nilIface) rfl) ?_
      refine lw_nil ?_
      refine cw_seq ?_
      refine cw_seq ?_
      refine cw_region ?_
      first | refine lw_val rfl (run_move (v := .pointer (some _)) rfl) ?_ | refine lw_val rfl (run_move (v := .pointer none) rfl) ?_
      refine lw_val rfl (run_eqpn Tryd.underlying47 rfl rfl) ?_
      first | refine lw_val rfl (run_move (v := .bool _) rfl) ?_
      refine lw_on rfl rfl rfl ?_
      first | refine lw_val rfl (run_move (v := errV ad _) rfl) ?_ | refine lw_val rfl (run_move (v := .nilIface) rfl) ?_
      refine lw_on rfl rfl rfl ?_
      first | refine lw_val rfl (run_neerrn (ad := ad) rfl) ?_ | refine lw_val rfl (run_nenn rfl) ?_
      first | refine lw_val rfl (run_pickF (v := .bool _) rfl rfl rfl) ?_
      first | refine lw_val rfl (run_move (v := .bool _) rfl) ?_
      refine lw_on rfl rfl (rfl) ?_
      first | refine lw_val rfl (run_move (v := errV ad _) rfl) ?_ | refine lw_val rfl (run_move (v := .nilIface) rfl) ?_
      refine lw_on rfl rfl (rfl) ?_
      first | refine lw_val rfl (run_neerrn (ad := ad) rfl) ?_ | refine lw_val rfl (run_nenn rfl) ?_
      first | refine lw_val rfl (run_pickF (v := .bool _) rfl (rfl) rfl) ?_
      refine lw_nil ?_
      refine cw_iff rfl (not_f (decide_eq_true hc.symm)) ?_
      refine cw_skip ?_
      refine cw_seq ?_
      refine cw_region ?_
      first | refine lw_val rfl (run_move (v := .pointer (some _)) rfl) ?_ | refine lw_val rfl (run_move (v := .pointer none) rfl) ?_
      first | refine lw_val rfl (run_move (v := .slice _ _ _) rfl) ?_
      refine lw_call rfl en22 (script_sl (outs := outs) (hs.arr [2, 1, 0] 3 (by decide)) (ho.rd _) (by simp [St.empty]; omega)) ?_
      clear hs
      rintro _ w ⟨rfl, hs⟩
      refine lw_nil ?_
      refine cw_seq ?_
      refine cw_region ?_
      first | refine lw_val rfl (run_assign (v := .int .i64 _) rfl) ?_
      refine lw_nil ?_
      refine cw_seq ?_
      refine cw_region ?_
      first | refine lw_val rfl (run_assign (v := .int .i64 _) rfl) ?_
      refine lw_nil ?_
      refine cw_seq ?_
      refine cw_region ?_
      first | refine lw_val rfl (run_assign (v := .bool _) rfl) ?_
      refine lw_nil ?_
      refine cw_seq ?_
      refine cw_seq ?_
      refine cw_region ?_
      first | refine lw_val rfl (run_assign (v := .int .i64 _) rfl) ?_
      refine lw_nil ?_
      refine cw_block ?_
      refine cw_loop (X := Nat × Int × Nat × Bool × St × Nat) [6, 13, 14, 15, 16, 17, 18, 19, 20, 67, 68, 69, 70, 71, 72, 73, 74, 75, 76, 77, 78, 79, 80, 81, 82, 83, 84, 85, 86, 87, 88, 89, 90, 91, 92, 93, 94, 95, 96, 97, 98, 99, 100, 101, 102, 103, 104, 105, 106, 107, 108, 109, 110, 111, 112, 113, 114, 115, 116, 117, 118, 119, 120, 121, 122, 123, 124, 125, 126, 127, 128, 129, 130, 131, 132, 133, 134, 135, 136, 137, 138, 139, 140, 141, 142] (fun x => [(13, .int .i64 x.2.1), (14, .int .i64 (x.2.2.1 : Nat)), (15, .bool x.2.2.2.1), (16, .int .i64 (x.1 : Nat))]) (fun x w => LoopPS l (e0 + 1) x.1 x.2.1 x.2.2.1 x.2.2.2.1 x.2.2.2.2.1 x.2.2.2.2.2 ∧ Mem g w [clientC q p 2 (x.2.2.2.2.2 : Nat), StoreC p x.2.2.2.2.1, cells b11 (planC nO l.length (crcMore 0 l : Nat) (e0 + 1 : Nat) (partsN l.length (e0 + 1) : Nat)) 38]) (fun x => 400 - x.1) ((0, 0, 0, false, { St.empty with script := outs }, 0)) ?_ ?_ ?_
      · exact ⟨rfl, rfl, rfl, rfl, trivial⟩
      · exact ⟨⟨by omega, .inr ⟨rfl, ⟨by simp [St.empty], by simp [St.empty], by simp [St.empty], by simp⟩, PInv.empty outs, _, .inl ⟨rfl, rfl, rfl⟩, .inl (by simp; omega)⟩⟩, hs.arr [1, 0, 2] 3 (by decide)⟩
      clear hs
      rintro x ξ w hI
      obtain ⟨i, id, done, over, st, a2⟩ := x
      obtain ⟨⟨hi, hov⟩, hs⟩ := hI
      simp only at hi hov hs
      refine cw_seq ?_
      refine cw_seq ?_
      refine cw_region ?_
      first | refine lw_val rfl (run_move (v := .int .i64 _) rfl) ?_
      refine lw_val rfl (run_lss rfl rfl) ?_
      first | refine lw_val rfl (run_move (v := .bool _) rfl) ?_
      refine lw_split (t := _) (d := 69) rfl ?_ ?_
      · intro h68
        have g68 := of_decide_eq_true h68
        simp only at g68
        refine lw_on rfl rfl h68 ?_
        first | refine lw_val rfl (run_move (v := .bool _) rfl) ?_
        refine lw_on rfl rfl h68 ?_
        refine lw_val rfl (run_not rfl) ?_
        first | refine lw_val rfl (run_pickT (v := .bool _) rfl h68 rfl) ?_
        refine lw_nil ?_
        refine cw_if rfl ?_ ?_
        · intro h70
          replace h70 := not_b h70
          have hst : PSt l (e0 + 1) i id done st a2 := by rcases hov with ⟨h, _⟩ | ⟨_, h⟩; exact absurd (h.symm.trans h70) (by decide); exact h
          have hdn : done ≤ 200 := by obtain ⟨m, h, _⟩ := hst.ph; rcases h with h | h | h <;> omega
          refine cw_skip ?_
          refine cw_seq ?_
          refine cw_block ?_
          refine cw_seq ?_
          refine cw_region ?_
          first | refine lw_val rfl (run_move (v := .pointer (some _)) rfl) ?_ | refine lw_val rfl (run_move (v := .pointer none) rfl) ?_
          first | refine lw_val rfl (run_loadRow hs 0 rfl Tryd.underlying38 sz38 rfl) ?_ | refine lw_val rfl (run_loadRow hs 1 rfl Tryd.underlying38 sz38 rfl) ?_ | refine lw_val rfl (run_loadRow hs 2 rfl Tryd.underlying38 sz38 rfl) ?_ | refine lw_val rfl (run_loadRow hs 3 rfl Tryd.underlying38 sz38 rfl) ?_ | refine lw_val rfl (run_loadRow hs 4 rfl Tryd.underlying38 sz38 rfl) ?_ | refine lw_val rfl (run_loadRow hs 5 rfl Tryd.underlying38 sz38 rfl) ?_ | refine lw_val rfl (run_loadRow hs 6 rfl Tryd.underlying38 sz38 rfl) ?_ | refine lw_val rfl (run_loadRow hs 7 rfl Tryd.underlying38 sz38 rfl) ?_ | refine lw_val rfl (run_loadRow hs 8 rfl Tryd.underlying38 sz38 rfl) ?_ | refine lw_val rfl (run_loadRow hs 9 rfl Tryd.underlying38 sz38 rfl) ?_ | refine lw_val rfl (run_loadRow hs 10 rfl Tryd.underlying38 sz38 rfl) ?_ | refine lw_val rfl (run_loadRow hs 11 rfl Tryd.underlying38 sz38 rfl) ?_ | refine lw_val rfl (run_loadRow hs 12 rfl Tryd.underlying38 sz38 rfl) ?_ | refine lw_val rfl (run_loadRow hs 13 rfl Tryd.underlying38 sz38 rfl) ?_
          first | refine lw_val rfl (run_move (v := .slice _ _ _) rfl) ?_
          first | refine lw_val rfl (run_move (v := .int .i64 _) rfl) ?_
          first | refine lw_val rfl (run_move (v := .int .i64 _) rfl) ?_
          refine lw_call rfl en46 (ps_step hE (by omega) (by omega) (by omega) (by omega) hst hs (hb.rd _)) ?_
          clear hs
          rintro _ w ⟨id2, done2, is2, x2, st2, a3, rfl, hs, hres⟩
          first | refine lw_val rfl (run_move (v := .tuple _) rfl) ?_
          first | refine lw_val rfl (run_extract (v := .int .i64 _) rfl rfl) ?_
          first | refine lw_val rfl (run_extract (v := .int .i64 _) rfl rfl) ?_
          first | refine lw_val rfl (run_extract (v := .bool _) rfl rfl) ?_
          first | refine lw_val rfl (run_extract (v := errV ad _) rfl rfl) ?_ | refine lw_val rfl (run_extract (v := .nilIface) rfl rfl) ?_
          first | refine lw_val rfl (run_assign (v := .int .i64 _) rfl) ?_
          first | refine lw_val rfl (run_assign (v := .int .i64 _) rfl) ?_
          first | refine lw_val rfl (run_assign (v := .bool _) rfl) ?_
          first | refine lw_val rfl (run_assign (v := errV ad _) rfl) ?_ | refine lw_val rfl (run_assign (v := .nilIface) rfl) ?_
          refine lw_nil ?_
          refine cw_seq ?_
          refine cw_seq ?_
          refine cw_region ?_
          first | refine lw_val rfl (run_move (v := errV ad _) rfl) ?_ | refine lw_val rfl (run_move (v := .nilIface) rfl) ?_
          first | refine lw_val rfl (run_neerrn (ad := ad) rfl) ?_ | refine lw_val rfl (run_nenn rfl) ?_
          refine lw_nil ?_
          refine cw_if rfl ?_ ?_
          · intro h87
            have g87 := ne_t h87
            obtain ⟨rfl, rfl, rfl, rfl, hst2⟩ : 111 = x2 ∧ id = id2 ∧ done = done2 ∧ false = is2 ∧ PSt l (e0 + 1) (i + 1) id done st2 a3 := by rcases hres with h | h | h; exact ⟨h.1.symm, h.2.1.symm, h.2.2.1.symm, h.2.2.2.1.symm, h.2.2.2.2⟩; exact absurd h.1 g87; exact absurd h.1 g87
            refine cw_seq ?_
            refine cw_seq ?_
            refine cw_region ?_
            first | refine lw_val rfl (run_move (v := errV ad _) rfl) ?_ | refine lw_val rfl (run_move (v := .nilIface) rfl) ?_
            refine lw_call rfl en25 (is_sl hA hs (d := 111) (.inr m111) _) ?_
            clear hs
            rintro _ w ⟨rfl, hs⟩
            refine lw_val rfl (run_not rfl) ?_
            first | refine lw_val rfl (run_move (v := .bool _) rfl) ?_
            refine lw_on rfl rfl (not_f (decide_eq_true rfl)) ?_
            first | refine lw_val rfl (run_move (v := .int .i64 _) rfl) ?_
            refine lw_on rfl rfl (not_f (decide_eq_true rfl)) ?_
            first | refine lw_val rfl (run_move (v := .int .i64 _) rfl) ?_
            refine lw_on rfl rfl (not_f (decide_eq_true rfl)) ?_
            refine lw_val rfl (run_nei rfl rfl) ?_
            first | refine lw_val rfl (run_pickF (v := .bool _) rfl (not_f (decide_eq_true rfl)) rfl) ?_
            first | refine lw_val rfl (run_move (v := .bool _) rfl) ?_
            refine lw_on rfl rfl (not_f (decide_eq_true rfl)) ?_
            first | refine lw_val rfl (run_move (v := .int .i64 _) rfl) ?_
            refine lw_on rfl rfl (not_f (decide_eq_true rfl)) ?_
            first | refine lw_val rfl (run_move (v := .int .i64 _) rfl) ?_
            refine lw_on rfl rfl (not_f (decide_eq_true rfl)) ?_
            refine lw_val rfl (run_nei rfl rfl) ?_
            first | refine lw_val rfl (run_pickF (v := .bool _) rfl (not_f (decide_eq_true rfl)) rfl) ?_
            first | refine lw_val rfl (run_move (v := .bool _) rfl) ?_
            refine lw_on rfl rfl (not_f (decide_eq_true rfl)) ?_
            first | refine lw_val rfl (run_move (v := .bool _) rfl) ?_
            first | refine lw_val rfl (run_pickF (v := .bool _) rfl (not_f (decide_eq_true rfl)) rfl) ?_
            refine lw_nil ?_
            refine cw_if rfl ?_ ?_
            · intro h84
              refine cw_seq ?_
              refine cw_region ?_
              first | refine lw_val rfl (run_assign (v := .bool _) rfl) ?_
              refine lw_nil ?_
              refine cw_ret ?_
              refine res1 (v := .bool _) rfl rfl ?_
              cases h84
            · intro h84
              refine cw_skip ?_
              refine cw_exit rfl ?_
              refine cw_region ?_
              first | refine lw_val rfl (run_move (v := .int .i64 _) rfl) ?_
              refine lw_val rfl (run_add64 rfl rfl rfl (inI (by omega) (by omega))) ?_
              first | refine lw_val rfl (run_assign (v := .int .i64 _) rfl) ?_
              refine lw_nil ?_
              exact ⟨(i + 1, id, done, over, st2, a3), by simp only; omega, ⟨⟨by simp only; omega, .inr ⟨h70, hst2⟩⟩, hs⟩, ⟨rfl, rfl, rfl, rfl, trivial⟩, by repeat (first | exact Out.mix _ _ _ | refine Out.updo rfl ?_ | refine Out.upd rfl ?_)⟩
          · intro h87
            have g87 := ne_f h87
            refine cw_skip ?_
            refine cw_seq ?_
            refine cw_seq ?_
            refine cw_region ?_
            first | refine lw_val rfl (run_move (v := .bool _) rfl) ?_
            first | refine lw_val rfl (run_move (v := .bool _) rfl) ?_
            refine lw_split (t := _) (d := 105) rfl ?_ ?_
            · intro h84
              obtain ⟨rfl, rfl, hdP, hov2⟩ : id = id2 ∧ done = done2 ∧ done = partsN l.length (e0 + 1) ∧ POver l (i + 1) id st2 a3 := by rcases hres with h | h | h; exact absurd (h.2.2.2.1.symm.trans h84) (by decide); exact absurd (h.2.1.symm.trans h84) (by decide); exact ⟨h.2.2.1.symm, h.2.2.2.1.symm, h.2.2.2.2.1, h.2.2.2.2.2⟩
              refine lw_on rfl rfl h84 ?_
              first | refine lw_val rfl (run_move (v := .int .i64 _) rfl) ?_
              refine lw_on rfl rfl h84 ?_
              first | refine lw_val rfl (run_move (v := .int .i64 _) rfl) ?_
              refine lw_on rfl rfl h84 ?_
              refine lw_val rfl (run_nei rfl rfl) ?_
              refine lw_on rfl rfl h84 ?_
              first | refine lw_val rfl (run_move (v := .bool _) rfl) ?_
              refine lw_on rfl rfl (not_f (decide_eq_true rfl)) ?_
              first | refine lw_val rfl (run_move (v := .int .i64 _) rfl) ?_
              refine lw_on rfl rfl (not_f (decide_eq_true rfl)) ?_
              first | refine lw_val rfl (run_move (v := .int .i64 _) rfl) ?_
              refine lw_on rfl rfl (not_f (decide_eq_true rfl)) ?_
              refine lw_val rfl (run_nei rfl rfl) ?_
              refine lw_on rfl rfl h84 ?_
              first | refine lw_val rfl (run_pickF (v := .bool _) rfl (not_f (decide_eq_true rfl)) rfl) ?_
              refine lw_on rfl rfl h84 ?_
              first | refine lw_val rfl (run_move (v := .bool _) rfl) ?_
              refine lw_on rfl rfl (not_f (decide_eq_true rfl)) ?_
              first | refine lw_val rfl (run_move (v := .int .i64 _) rfl) ?_
              refine lw_on rfl rfl (not_f (decide_eq_true rfl)) ?_
              first | refine lw_val rfl (run_fieldAddr (o' := 4) Tryd.underlying38 rfl sz3 rfl rfl rfl) ?_ | refine lw_val rfl (run_fieldAddr Tryd.underlying38 rfl sz3 rfl rfl rfl) ?_
              refine lw_on rfl rfl (not_f (decide_eq_true rfl)) ?_
              first | refine lw_val rfl (run_load Tryd.underlying3 rfl rfl (hs.cellAt 0 rfl rfl)) ?_ | refine lw_val rfl (run_load Tryd.underlying3 rfl rfl (hs.cellAt 1 rfl rfl)) ?_ | refine lw_val rfl (run_load Tryd.underlying3 rfl rfl (hs.cellAt 2 rfl rfl)) ?_ | refine lw_val rfl (run_load Tryd.underlying3 rfl rfl (hs.cellAt 3 rfl rfl)) ?_ | refine lw_val rfl (run_load Tryd.underlying3 rfl rfl (hs.cellAt 4 rfl rfl)) ?_ | refine lw_val rfl (run_load Tryd.underlying3 rfl rfl (hs.cellAt 5 rfl rfl)) ?_ | refine lw_val rfl (run_load Tryd.underlying3 rfl rfl (hs.cellAt 6 rfl rfl)) ?_ | refine lw_val rfl (run_load Tryd.underlying3 rfl rfl (hs.cellAt 7 rfl rfl)) ?_ | refine lw_val rfl (run_load Tryd.underlying3 rfl rfl (hs.cellAt 8 rfl rfl)) ?_ | refine lw_val rfl (run_load Tryd.underlying3 rfl rfl (hs.cellAt 9 rfl rfl)) ?_ | refine lw_val rfl (run_load Tryd.underlying3 rfl rfl (hs.cellAt 10 rfl rfl)) ?_ | refine lw_val rfl (run_load Tryd.underlying3 rfl rfl (hs.cellAt 11 rfl rfl)) ?_ | refine lw_val rfl (run_load Tryd.underlying3 rfl rfl (hs.cellAt 12 rfl rfl)) ?_ | refine lw_val rfl (run_load Tryd.underlying3 rfl rfl (hs.cellAt 13 rfl rfl)) ?_
              refine lw_on rfl rfl (not_f (decide_eq_true rfl)) ?_
              refine lw_val rfl (run_nei rfl rfl) ?_
              refine lw_on rfl rfl h84 ?_
              first | refine lw_val rfl (run_pickF (v := .bool _) rfl (not_f (decide_eq_true rfl)) rfl) ?_
              first | refine lw_val rfl (run_pickT (v := .bool _) rfl h84 rfl) ?_
              first | refine lw_val rfl (run_move (v := .bool _) rfl) ?_
              refine lw_on rfl rfl (not_f (decide_eq_true (show ((done : Nat) : Int) = ((partsN l.length (e0 + 1) : Nat) : Int) by omega))) ?_
              first | refine lw_val rfl (run_move (v := .bool _) rfl) ?_
              refine lw_on rfl rfl (not_f (decide_eq_true (show ((done : Nat) : Int) = ((partsN l.length (e0 + 1) : Nat) : Int) by omega))) ?_
              refine lw_val rfl (run_not rfl) ?_
              refine lw_on rfl rfl (not_f (decide_eq_true (show ((done : Nat) : Int) = ((partsN l.length (e0 + 1) : Nat) : Int) by omega))) ?_
              first | refine lw_val rfl (run_move (v := .bool _) rfl) ?_
              refine lw_off rfl rfl rfl (not_f h84) ?_
              refine lw_off rfl rfl rfl (not_f h84) ?_
              refine lw_off rfl rfl rfl (not_f h84) ?_
              refine lw_on rfl rfl (not_f (decide_eq_true (show ((done : Nat) : Int) = ((partsN l.length (e0 + 1) : Nat) : Int) by omega))) ?_
              first | refine lw_val rfl (run_pickF (v := .bool _) rfl (not_f h84) rfl) ?_
              refine lw_on rfl rfl (not_f (decide_eq_true (show ((done : Nat) : Int) = ((partsN l.length (e0 + 1) : Nat) : Int) by omega))) ?_
              first | refine lw_val rfl (run_move (v := .bool _) rfl) ?_
              refine lw_off rfl rfl rfl rfl ?_
              refine lw_off rfl rfl rfl rfl ?_
              refine lw_off rfl rfl rfl rfl ?_
              refine lw_off rfl rfl rfl rfl ?_
              refine lw_on rfl rfl (not_f (decide_eq_true (show ((done : Nat) : Int) = ((partsN l.length (e0 + 1) : Nat) : Int) by omega))) ?_
              first | refine lw_val rfl (run_pickF (v := .bool _) rfl rfl rfl) ?_
              refine lw_on rfl rfl (not_f (decide_eq_true (show ((done : Nat) : Int) = ((partsN l.length (e0 + 1) : Nat) : Int) by omega))) ?_
              first | refine lw_val rfl (run_move (v := .bool _) rfl) ?_
              refine lw_off rfl rfl rfl rfl ?_
              refine lw_off rfl rfl rfl rfl ?_
              refine lw_on rfl rfl (not_f (decide_eq_true (show ((done : Nat) : Int) = ((partsN l.length (e0 + 1) : Nat) : Int) by omega))) ?_
              first | refine lw_val rfl (run_pickF (v := .bool _) rfl rfl rfl) ?_
              first | refine lw_val rfl (run_pickF (v := .bool _) rfl (not_f (decide_eq_true (show ((done : Nat) : Int) = ((partsN l.length (e0 + 1) : Nat) : Int) by omega))) rfl) ?_
              refine lw_nil ?_
              refine cw_iff rfl rfl ?_
              refine cw_skip ?_
              refine cw_seq ?_
              refine cw_region ?_
              first | refine lw_val rfl (run_move (v := .int .i64 _) rfl) ?_
              first | refine lw_val rfl (run_assign (v := .int .i64 _) rfl) ?_
              refine lw_nil ?_
              refine cw_seq ?_
              refine cw_region ?_
              first | refine lw_val rfl (run_move (v := .int .i64 _) rfl) ?_
              first | refine lw_val rfl (run_assign (v := .int .i64 _) rfl) ?_
              refine lw_nil ?_
              refine cw_region ?_
              first | refine lw_val rfl (run_move (v := .bool _) rfl) ?_
              first | refine lw_val rfl (run_assign (v := .bool _) rfl) ?_
              refine lw_nil ?_
              refine cw_region ?_
              first | refine lw_val rfl (run_move (v := .int .i64 _) rfl) ?_
              refine lw_val rfl (run_add64 rfl rfl rfl (inI (by omega) (by omega))) ?_
              first | refine lw_val rfl (run_assign (v := .int .i64 _) rfl) ?_
              refine lw_nil ?_
              exact ⟨(i + 1, id, done, is2, st2, a3), by simp only; omega, ⟨⟨by simp only; omega, .inl ⟨h84, hov2⟩⟩, hs⟩, ⟨rfl, rfl, rfl, rfl, trivial⟩, by repeat (first | exact Out.mix _ _ _ | refine Out.updo rfl ?_ | refine Out.upd rfl ?_)⟩
            · intro h84
              obtain ⟨hnk, hst2⟩ : (id2 = id → id ≠ 0 → done2 = done + 1) ∧ PSt l (e0 + 1) (i + 1) id2 done2 st2 a3 := by rcases hres with h | h | h; exact absurd (h.1.symm.trans g87) (by decide); exact h.2.2; exact absurd (h.2.1.symm.trans h84) (by decide)
              refine lw_off rfl rfl rfl h84 ?_
              refine lw_off rfl rfl rfl h84 ?_
              refine lw_off rfl rfl rfl h84 ?_
              refine lw_off rfl rfl rfl h84 ?_
              refine lw_offU rfl rfl rfl ?_
              refine lw_offU rfl rfl rfl ?_
              refine lw_offU rfl rfl rfl ?_
              refine lw_off rfl rfl rfl h84 ?_
              refine lw_off rfl rfl rfl h84 ?_
              refine lw_offU rfl rfl rfl ?_
              refine lw_offU rfl rfl rfl ?_
              refine lw_offU rfl rfl rfl ?_
              refine lw_offU rfl rfl rfl ?_
              refine lw_off rfl rfl rfl h84 ?_
              first | refine lw_val rfl (run_pickF (v := .bool _) rfl h84 rfl) ?_
              first | refine lw_val rfl (run_move (v := .bool _) rfl) ?_
              refine lw_on rfl rfl rfl ?_
              first | refine lw_val rfl (run_move (v := .bool _) rfl) ?_
              refine lw_on rfl rfl rfl ?_
              refine lw_val rfl (run_not rfl) ?_
              refine lw_on rfl rfl rfl ?_
              first | refine lw_val rfl (run_move (v := .bool _) rfl) ?_
              refine lw_on rfl rfl (not_t h84) ?_
              first | refine lw_val rfl (run_move (v := .int .i64 _) rfl) ?_
              refine lw_on rfl rfl (not_t h84) ?_
              first | refine lw_val rfl (run_move (v := .int .i64 _) rfl) ?_
              refine lw_on rfl rfl (not_t h84) ?_
              refine lw_val rfl (run_eqi rfl rfl) ?_
              refine lw_on rfl rfl rfl ?_
              first | refine lw_val rfl (run_pickT (v := .bool _) rfl (not_t h84) rfl) ?_
              refine lw_on rfl rfl rfl ?_
              first | refine lw_val rfl (run_move (v := .bool _) rfl) ?_
              refine lw_split (t := _) (d := 129) rfl ?_ ?_
              · intro h127
                have g127 := of_decide_eq_true h127
                refine lw_on rfl rfl h127 ?_
                first | refine lw_val rfl (run_move (v := .int .i64 _) rfl) ?_
                refine lw_on rfl rfl h127 ?_
                first | refine lw_val rfl (run_move (v := .int .i64 _) rfl) ?_
                refine lw_on rfl rfl h127 ?_
                refine lw_val rfl (run_add64 rfl rfl (c := ((done : Nat) : Int) + 1) rfl (inI (by omega) (by omega))) ?_
                refine lw_on rfl rfl h127 ?_
                refine lw_val rfl (run_nei rfl rfl) ?_
                refine lw_on rfl rfl rfl ?_
                first | refine lw_val rfl (run_pickT (v := .bool _) rfl h127 rfl) ?_
                refine lw_on rfl rfl rfl ?_
                first | refine lw_val rfl (run_move (v := .bool _) rfl) ?_
                refine lw_split (t := _) (d := 135) rfl ?_ ?_
                · intro h133
                  have g133 := ne_t h133
                  refine lw_on rfl rfl h133 ?_
                  first | refine lw_val rfl (run_move (v := .int .i64 _) rfl) ?_
                  refine lw_on rfl rfl h133 ?_
                  refine lw_val rfl (run_nei rfl rfl) ?_
                  refine lw_on rfl rfl rfl ?_
                  first | refine lw_val rfl (run_pickT (v := .bool _) rfl h133 rfl) ?_
                  first | refine lw_val rfl (run_pickF (v := .bool _) rfl rfl rfl) ?_
                  refine lw_nil ?_
                  refine cw_if rfl ?_ ?_
                  · intro h137
                    have g137 := ne_t h137
                    refine cw_seq ?_
                    refine cw_region ?_
                    first | refine lw_val rfl (run_assign (v := .bool _) rfl) ?_
                    refine lw_nil ?_
                    refine cw_ret ?_
                    refine res1 (v := .bool _) rfl rfl ?_
                    exact (g133 (by have := hnk g127 g137; omega)).elim
                  · intro h137
                    have g137 := ne_f h137
                    refine cw_skip ?_
                    refine cw_seq ?_
                    refine cw_region ?_
                    first | refine lw_val rfl (run_move (v := .int .i64 _) rfl) ?_
                    first | refine lw_val rfl (run_assign (v := .int .i64 _) rfl) ?_
                    refine lw_nil ?_
                    refine cw_seq ?_
                    refine cw_region ?_
                    first | refine lw_val rfl (run_move (v := .int .i64 _) rfl) ?_
                    first | refine lw_val rfl (run_assign (v := .int .i64 _) rfl) ?_
                    refine lw_nil ?_
                    refine cw_region ?_
                    first | refine lw_val rfl (run_move (v := .bool _) rfl) ?_
                    first | refine lw_val rfl (run_assign (v := .bool _) rfl) ?_
                    refine lw_nil ?_
                    refine cw_region ?_
                    first | refine lw_val rfl (run_move (v := .int .i64 _) rfl) ?_
                    refine lw_val rfl (run_add64 rfl rfl rfl (inI (by omega) (by omega))) ?_
                    first | refine lw_val rfl (run_assign (v := .int .i64 _) rfl) ?_
                    refine lw_nil ?_
                    exact ⟨(i + 1, id2, done2, is2, st2, a3), by simp only; omega, ⟨⟨by simp only; omega, .inr ⟨h84, hst2⟩⟩, hs⟩, ⟨rfl, rfl, rfl, rfl, trivial⟩, by repeat (first | exact Out.mix _ _ _ | refine Out.updo rfl ?_ | refine Out.upd rfl ?_)⟩
                · intro h133
                  have g133 := ne_f h133
                  refine lw_off rfl rfl rfl h133 ?_
                  refine lw_off rfl rfl rfl h133 ?_
                  refine lw_on rfl rfl rfl ?_
                  first | refine lw_val rfl (run_pickF (v := .bool _) rfl h133 rfl) ?_
                  first | refine lw_val rfl (run_pickF (v := .bool _) rfl rfl rfl) ?_
                  refine lw_nil ?_
                  refine cw_iff rfl rfl ?_
                  refine cw_skip ?_
                  refine cw_seq ?_
                  refine cw_region ?_
                  first | refine lw_val rfl (run_move (v := .int .i64 _) rfl) ?_
                  first | refine lw_val rfl (run_assign (v := .int .i64 _) rfl) ?_
                  refine lw_nil ?_
                  refine cw_seq ?_
                  refine cw_region ?_
                  first | refine lw_val rfl (run_move (v := .int .i64 _) rfl) ?_
                  first | refine lw_val rfl (run_assign (v := .int .i64 _) rfl) ?_
                  refine lw_nil ?_
                  refine cw_region ?_
                  first | refine lw_val rfl (run_move (v := .bool _) rfl) ?_
                  first | refine lw_val rfl (run_assign (v := .bool _) rfl) ?_
                  refine lw_nil ?_
                  refine cw_region ?_
                  first | refine lw_val rfl (run_move (v := .int .i64 _) rfl) ?_
                  refine lw_val rfl (run_add64 rfl rfl rfl (inI (by omega) (by omega))) ?_
                  first | refine lw_val rfl (run_assign (v := .int .i64 _) rfl) ?_
                  refine lw_nil ?_
                  exact ⟨(i + 1, id2, done2, is2, st2, a3), by simp only; omega, ⟨⟨by simp only; omega, .inr ⟨h84, hst2⟩⟩, hs⟩, ⟨rfl, rfl, rfl, rfl, trivial⟩, by repeat (first | exact Out.mix _ _ _ | refine Out.updo rfl ?_ | refine Out.upd rfl ?_)⟩
              · intro h127
                have g127 := of_decide_eq_false h127
                refine lw_off rfl rfl rfl h127 ?_
                refine lw_off rfl rfl rfl h127 ?_
                refine lw_off rfl rfl rfl h127 ?_
                refine lw_off rfl rfl rfl h127 ?_
                refine lw_on rfl rfl rfl ?_
                first | refine lw_val rfl (run_pickF (v := .bool _) rfl h127 rfl) ?_
                refine lw_on rfl rfl rfl ?_
                first | refine lw_val rfl (run_move (v := .bool _) rfl) ?_
                refine lw_off rfl rfl rfl rfl ?_
                refine lw_off rfl rfl rfl rfl ?_
                refine lw_on rfl rfl rfl ?_
                first | refine lw_val rfl (run_pickF (v := .bool _) rfl rfl rfl) ?_
                first | refine lw_val rfl (run_pickF (v := .bool _) rfl rfl rfl) ?_
                refine lw_nil ?_
                refine cw_iff rfl rfl ?_
                refine cw_skip ?_
                refine cw_seq ?_
                refine cw_region ?_
                first | refine lw_val rfl (run_move (v := .int .i64 _) rfl) ?_
                first | refine lw_val rfl (run_assign (v := .int .i64 _) rfl) ?_
                refine lw_nil ?_
                refine cw_seq ?_
                refine cw_region ?_
                first | refine lw_val rfl (run_move (v := .int .i64 _) rfl) ?_
                first | refine lw_val rfl (run_assign (v := .int .i64 _) rfl) ?_
                refine lw_nil ?_
                refine cw_region ?_
                first | refine lw_val rfl (run_move (v := .bool _) rfl) ?_
                first | refine lw_val rfl (run_assign (v := .bool _) rfl) ?_
                refine lw_nil ?_
                refine cw_region ?_
                first | refine lw_val rfl (run_move (v := .int .i64 _) rfl) ?_
                refine lw_val rfl (run_add64 rfl rfl rfl (inI (by omega) (by omega))) ?_
                first | refine lw_val rfl (run_assign (v := .int .i64 _) rfl) ?_
                refine lw_nil ?_
                exact ⟨(i + 1, id2, done2, is2, st2, a3), by simp only; omega, ⟨⟨by simp only; omega, .inr ⟨h84, hst2⟩⟩, hs⟩, ⟨rfl, rfl, rfl, rfl, trivial⟩, by repeat (first | exact Out.mix _ _ _ | refine Out.updo rfl ?_ | refine Out.upd rfl ?_)⟩
        · intro h70
          replace h70 := not_c h70
          have hov2 : over = true ∧ POver l i id st a2 := by rcases hov with h | ⟨h, _⟩; exact h; exact absurd (h.symm.trans h70) (by decide)
          refine cw_exit rfl ?_
          refine cw_seq ?_
          obtain ⟨hot, ⟨hbud, hinv, hgone⟩⟩ := hov2
          refine cw_region ?_
          first | refine lw_val rfl (run_move (v := .pointer (some _)) rfl) ?_ | refine lw_val rfl (run_move (v := .pointer none) rfl) ?_
          refine lw_call rfl en24 (bytes_sl (hs.pick 1 rfl) hinv.small nO (o := some l) (by simp [hgone.2, aget])) ?_
          clear hs
          rintro _ w ⟨a145, c145, rfl, hs⟩
          first | refine lw_val rfl (run_move (v := .tuple _) rfl) ?_
          first | refine lw_val rfl (run_extract (v := .slice _ _ _) rfl rfl) ?_
          first | refine lw_val rfl (run_extract (v := .bool _) rfl rfl) ?_
          first | refine lw_val rfl (run_assign (v := .slice _ _ _) rfl) ?_
          first | refine lw_val rfl (run_assign (v := .bool _) rfl) ?_
          refine lw_nil ?_
          refine cw_seq ?_
          refine cw_region ?_
          first | refine lw_val rfl (run_move (v := .bool _) rfl) ?_
          first | refine lw_val rfl (run_move (v := .bool _) rfl) ?_
          refine lw_on rfl rfl (hot) ?_
          first | refine lw_val rfl (run_move (v := .bool _) rfl) ?_
          first | refine lw_val rfl (run_pickT (v := .bool _) rfl (hot) rfl) ?_
          first | refine lw_val rfl (run_move (v := .bool _) rfl) ?_
          refine lw_on rfl rfl (rfl) ?_
          first | refine lw_val rfl (run_move (v := .slice _ _ _) rfl) ?_
          refine lw_on rfl rfl (rfl) ?_
          first | refine lw_val rfl (run_move (v := .slice _ _ _) rfl) ?_
          refine lw_on rfl rfl (rfl) ?_
          refine lw_call rfl en38 (sameB_sl (la := l) (lb := l) hs (Rd.own 0 rfl) (hb.rd _) rfl rfl (by omega)) ?_
          clear hs
          rintro _ w ⟨rfl, hs⟩
          first | refine lw_val rfl (run_pickT (v := .bool _) rfl (rfl) rfl) ?_
          first | refine lw_val rfl (run_move (v := .bool _) rfl) ?_
          refine lw_on rfl rfl (decide_eq_true rfl) ?_
          first | refine lw_val rfl (run_move (v := .pointer (some _)) rfl) ?_ | refine lw_val rfl (run_move (v := .pointer none) rfl) ?_
          refine lw_on rfl rfl (decide_eq_true rfl) ?_
          refine lw_call rfl en54 (open_sl (hs.pick 1 rfl) (fun x hx => by have := hinv.rng x hx; have := hbud.ids; exact inI (by omega) (by omega)) (by have := hinv.len; have := hbud.ids; omega)) ?_
          clear hs
          rintro _ w ⟨a159, c159, rfl, hs⟩
          refine lw_on rfl rfl (decide_eq_true rfl) ?_
          first | refine lw_val rfl (run_move (v := .int .i64 _) rfl) ?_
          refine lw_on rfl rfl (decide_eq_true rfl) ?_
          refine lw_call rfl en65 (among_sl (l := sortI (keysOf st.ups)) (k := id) hs (Rd.own 0 rfl) rfl (by have := hinv.len; have := hbud.ids; rw [sortI_len]; simp only [keysOf, List.length_map]; omega)) ?_
          clear hs
          rintro _ w ⟨rfl, hs⟩
          refine lw_on rfl rfl (decide_eq_true rfl) ?_
          refine lw_val rfl (run_not rfl) ?_
          first | refine lw_val rfl (run_pickT (v := .bool _) rfl (decide_eq_true rfl) rfl) ?_
          first | refine lw_val rfl (run_assign (v := .bool _) rfl) ?_
          refine lw_nil ?_
          refine cw_ret ?_
          refine res1 (v := .bool _) rfl rfl ?_
          exact ⟨_, rfl, ret_b (not_t (decide_eq_false (by rw [mem_sortI]; exact (aget_none_iff _ _).1 hgone.1))), hs.nil⟩
      · intro h68
        have g68 := of_decide_eq_false h68
        simp only at g68
        have hov2 : over = true ∧ POver l i id st a2 := by rcases hov with h | ⟨_, h⟩; exact h; rcases h.ph with ⟨m, _, h2 | ⟨_, h2⟩⟩ <;> (exfalso; omega)
        refine lw_off rfl rfl rfl h68 ?_
        refine lw_off rfl rfl rfl h68 ?_
        first | refine lw_val rfl (run_pickF (v := .bool _) rfl h68 rfl) ?_
        refine lw_nil ?_
        refine cw_iff rfl rfl ?_
        refine cw_exit rfl ?_
        refine cw_seq ?_
        obtain ⟨hot, ⟨hbud, hinv, hgone⟩⟩ := hov2
        refine cw_region ?_
        first | refine lw_val rfl (run_move (v := .pointer (some _)) rfl) ?_ | refine lw_val rfl (run_move (v := .pointer none) rfl) ?_
        refine lw_call rfl en24 (bytes_sl (hs.pick 1 rfl) hinv.small nO (o := some l) (by simp [hgone.2, aget])) ?_
        clear hs
        rintro _ w ⟨a145, c145, rfl, hs⟩
        first | refine lw_val rfl (run_move (v := .tuple _) rfl) ?_
        first | refine lw_val rfl (run_extract (v := .slice _ _ _) rfl rfl) ?_
        first | refine lw_val rfl (run_extract (v := .bool _) rfl rfl) ?_
        first | refine lw_val rfl (run_assign (v := .slice _ _ _) rfl) ?_
        first | refine lw_val rfl (run_assign (v := .bool _) rfl) ?_
        refine lw_nil ?_
        refine cw_seq ?_
        refine cw_region ?_
        first | refine lw_val rfl (run_move (v := .bool _) rfl) ?_
        first | refine lw_val rfl (run_move (v := .bool _) rfl) ?_
        refine lw_on rfl rfl (hot) ?_
        first | refine lw_val rfl (run_move (v := .bool _) rfl) ?_
        first | refine lw_val rfl (run_pickT (v := .bool _) rfl (hot) rfl) ?_
        first | refine lw_val rfl (run_move (v := .bool _) rfl) ?_
        refine lw_on rfl rfl (rfl) ?_
        first | refine lw_val rfl (run_move (v := .slice _ _ _) rfl) ?_
        refine lw_on rfl rfl (rfl) ?_
        first | refine lw_val rfl (run_move (v := .slice _ _ _) rfl) ?_
        refine lw_on rfl rfl (rfl) ?_
        refine lw_call rfl en38 (sameB_sl (la := l) (lb := l) hs (Rd.own 0 rfl) (hb.rd _) rfl rfl (by omega)) ?_
        clear hs
        rintro _ w ⟨rfl, hs⟩
        first | refine lw_val rfl (run_pickT (v := .bool _) rfl (rfl) rfl) ?_
        first | refine lw_val rfl (run_move (v := .bool _) rfl) ?_
        refine lw_on rfl rfl (decide_eq_true rfl) ?_
        first | refine lw_val rfl (run_move (v := .pointer (some _)) rfl) ?_ | refine lw_val rfl (run_move (v := .pointer none) rfl) ?_
        refine lw_on rfl rfl (decide_eq_true rfl) ?_
        refine lw_call rfl en54 (open_sl (hs.pick 1 rfl) (fun x hx => by have := hinv.rng x hx; have := hbud.ids; exact inI (by omega) (by omega)) (by have := hinv.len; have := hbud.ids; omega)) ?_
        clear hs
        rintro _ w ⟨a159, c159, rfl, hs⟩
        refine lw_on rfl rfl (decide_eq_true rfl) ?_
        first | refine lw_val rfl (run_move (v := .int .i64 _) rfl) ?_
        refine lw_on rfl rfl (decide_eq_true rfl) ?_
        refine lw_call rfl en65 (among_sl (l := sortI (keysOf st.ups)) (k := id) hs (Rd.own 0 rfl) rfl (by have := hinv.len; have := hbud.ids; rw [sortI_len]; simp only [keysOf, List.length_map]; omega)) ?_
        clear hs
        rintro _ w ⟨rfl, hs⟩
        refine lw_on rfl rfl (decide_eq_true rfl) ?_
        refine lw_val rfl (run_not rfl) ?_
        first | refine lw_val rfl (run_pickT (v := .bool _) rfl (decide_eq_true rfl) rfl) ?_
        first | refine lw_val rfl (run_assign (v := .bool _) rfl) ?_
        refine lw_nil ?_
        refine cw_ret ?_
        refine res1 (v := .bool _) rfl rfl ?_
        exact ⟨_, rfl, ret_b (not_t (decide_eq_false (by rw [mem_sortI]; exact (aget_none_iff _ _).1 hgone.1))), hs.nil⟩
end Go.Proofs.YtjiigajekminaaaDoor
