/- Sweeps: the views of the statements, orphans. -/
import Derived.Test.YtkogkokmcmallaaGreatDoorRp
import Derived.Test.YtkogkokmcmallaaGreatDoorVb
namespace Go.Proofs.YtkogkokmcmallaaGreatDoor
set_option linter.all false
open Go.RowKit
attribute [local irreducible] errV
variable {g w : World} {L M : List HP} {ad : Nat → Addr} {p : Nat} {V : Vw}

theorem aget_last {V : Vw} {id : Int} {a : Itm} (h : aget V id = none) : aget (V ++ [(id, a)]) id = some a := by rw [← al_end h, aget_put_same]
theorem aput_last {V : Vw} {id : Int} {a b : Itm} (h : aget V id = none) : aput (V ++ [(id, a)]) id b = V ++ [(id, b)] := by
  rw [aget_none_iff] at h
  induction V with
  | nil => simp [aput]
  | cons x l ih =>
    obtain ⟨k, v⟩ := x
    simp only [keysOf, List.map_cons, List.mem_cons, not_or] at h
    simp only [List.cons_append, aput]
    rw [if_neg (fun e => h.1 e.symm), ih h.2]
theorem Vw.apply_first {x : Mf} (hx : (mfF x).1 = 0) (h : aget V x.id = none) (hl : V.length < 4096) : V.apply 1 x = ((0, none), V ++ [(x.id, ⟨1, x⟩)]) := by
  rw [Vw.apply_new hx (by omega) (by simp [Vw.state, h, nextB]) h, if_neg (by omega), al_end h]
theorem Vw.apply_last {x : Mf} {s k : Int} (hx : (mfF x).1 = 0) (h : aget V x.id = none) (hn : nextB s k = true) : Vw.apply (V ++ [(x.id, ⟨s, x⟩)]) k x = ((0, none), V ++ [(x.id, ⟨k, x⟩)]) := by
  have hk := nextB_kind hn
  rw [Vw.apply_old hx (by omega) (by simp [Vw.state, aget_last h, hn]) (aget_last h), if_pos rfl, aput_last h]
/-- The state that a list of numbers gives a segment. -/
def stN (l : List Int) (id : Nat) : Nat := match l[id]? with | some z => (z % (5 : Nat)).toNat | none => 0
def madeV (l : List Int) (n : Nat) : Vw := (List.range n).filterMap fun id => if stN l id = 0 then none else some ((id : Int), ⟨(stN l id : Nat), oneM id (10 * id)⟩)
theorem madeV_next (l : List Int) (n : Nat) : madeV l (n + 1) = madeV l n ++ (if stN l n = 0 then [] else [((n : Int), ⟨(stN l n : Nat), oneM n (10 * n)⟩)]) := by
  rw [madeV, List.range_succ, List.filterMap_append, madeV]
  congr 1
  simp only [List.filterMap_cons, List.filterMap_nil]
  split
  · rename_i h; split at h
    · rename_i h0; rw [if_pos h0]
    · cases h
  · rename_i h; split at h
    · cases h
    · rename_i h0; cases h; rw [if_neg h0]
theorem madeV_fresh (l : List Int) (n : Nat) : aget (madeV l n) (n : Int) = none := by
  rw [aget_none_iff]
  intro hm
  obtain ⟨x, hx, he⟩ := List.mem_map.1 hm
  obtain ⟨i, hi, h⟩ := List.mem_filterMap.1 hx
  split at h
  · cases h
  · cases h
    have := List.mem_range.1 hi
    simp only at he
    omega
theorem madeV_len (l : List Int) (n : Nat) : (madeV l n).length ≤ n := by
  have := List.length_filterMap_le (fun id : Nat => if stN l id = 0 then none else some ((id : Int), (⟨(stN l id : Nat), oneM id (10 * id)⟩ : Itm))) (List.range n)
  simpa [madeV] using this
theorem one_ok {id : Nat} (h : id < 6) : (mfF (oneM id (10 * id))).1 = 0 := by rw [one23 id h]
/-- A manifest of the statements is let in. -/
theorem applyOne_sl (hE : ErrV ad g) {id : Nat} {k : Int} {V' : Vw} {s1 s2 : SA} (hs : Mem g w (mfP (oneM id (10 * id)) s1 s2 ++ ViewC p V :: L)) (hap : V.apply k (oneM id (10 * id)) = ((0, none), V')) : Calls Tryz.prog 29 #[.pointer (some ⟨p, 0, none⟩), .agg (.int .i64 k :: mfL (oneM id (10 * id)) s1 s2).toArray] w (Ret fun v w' => v = .nilIface ∧ Mem g w' (ViewC p V' :: L)) := by
  refine (apply_sl hE (L := mfP (oneM id (10 * id)) s1 s2 ++ L) (hs.arr [2, 0, 1] 3 (by decide)) k (MfR.own 0 1 rfl rfl) (by simp [oneM])).mono ?_
  rintro e w' ⟨v, rfl, eb, rfl, h⟩
  rw [hap] at h ⊢
  exact ⟨_, rfl, errV_zero ad, h.tail.arr [0] 3 (by decide)⟩
set_option maxHeartbeats 2000000 in
theorem made_sl (hE : ErrV ad g) (hs : Mem g w L) {a : Option Addr} {n c : Nat} {l : List Int} (hr : Rd g L (.slice a n c) (intsL l)) (hn : n = l.length) : Calls Tryz.prog 10 #[.slice a n c] w (Ret fun v w' => ∃ p, v = .pointer (some ⟨p, 0, none⟩) ∧ Mem g w' (ViewC p (madeV l 4) :: L)) := by
  subst hn
  refine calls_cw Tryz.func10 rfl rfl ?_
  skip
  refine cw_seq ?_
  refine cw_region ?_
  refine lw_val rfl (run_assign (v := .pointer none) rfl) ?_
  refine lw_nil ?_
  refine cw_seq ?_
  refine cw_region ?_
  refine lw_call rfl en28 (newv_sl hs) ?_
  clear hs
  rintro _ w ⟨p, rfl, hs⟩
  refine lw_val rfl (run_assign (v := .pointer (some _)) rfl) ?_
  refine lw_nil ?_
  refine cw_seq ?_
  refine cw_seq ?_
  refine cw_region ?_
  refine lw_val rfl (run_move (v := .pointer (some _)) rfl) ?_
  refine lw_val rfl (run_eqpn Tryz.underlying24 rfl rfl) ?_
  refine lw_nil ?_
  refine cw_iff rfl (rfl) ?_
  refine cw_skip ?_
  refine cw_seq ?_
  refine cw_seq ?_
  refine cw_region ?_
  refine lw_val rfl (run_assign (v := .int .i64 _) rfl) ?_
  refine lw_nil ?_
  refine cw_block ?_
  refine cw_loop (X := Nat) [2, 4, 5, 9, 10, 11, 12, 13, 14, 15, 16, 17, 18, 19, 20, 21, 22, 23, 24, 25, 26, 27, 28, 29, 30, 31, 32, 33, 34, 35, 36, 37, 38, 39, 40, 41, 42, 43, 44, 45, 46, 47, 48, 49, 50, 51, 52, 53, 54, 55, 56, 57, 58, 59, 60, 61] (fun k => [(4, .int .i64 (k : Nat))]) (fun k w => k ≤ 4 ∧ Mem g w (ViewC p (madeV l k) :: L)) (fun k => 4 - k) (0) ?_ ?_ ?_
  · exact ⟨rfl, trivial⟩
  · exact ⟨Nat.zero_le _, hs⟩
  clear hs
  rintro x ξ w hI
  obtain ⟨hk, hs⟩ := hI
  have hfr := madeV_fresh l x
  have hle := madeV_len l x
  have hnx := madeV_next l x
  refine cw_seq ?_
  refine cw_seq ?_
  refine cw_region ?_
  refine lw_val rfl (run_move (v := .int .i64 _) rfl) ?_
  refine lw_val rfl (run_lss rfl rfl) ?_
  refine lw_nil ?_
  refine cw_if rfl ?_ ?_
  · intro h10
    have g10 := of_decide_eq_true h10
    have hok := one_ok (show x < 6 by omega)
    refine cw_skip ?_
    refine cw_seq ?_
    refine cw_block ?_
    refine cw_seq ?_
    refine cw_region ?_
    refine lw_val rfl (run_assign (v := .int .i64 _) rfl) ?_
    refine lw_nil ?_
    refine cw_seq ?_
    refine cw_seq ?_
    refine cw_region ?_
    refine lw_val rfl (run_move (v := .int .i64 _) rfl) ?_
    refine lw_val rfl (run_move (v := .slice _ _ _) rfl) ?_
    refine lw_val rfl (run_lenS Tryz.underlying22 rfl) ?_
    refine lw_val rfl (run_lss rfl rfl) ?_
    refine lw_nil ?_
    refine cw_if rfl ?_ ?_
    · intro h16
      have g16 := of_decide_eq_true h16
      obtain ⟨z, hz⟩ : ∃ z, l[x]? = some z := ⟨_, List.getElem?_eq_getElem (by omega)⟩
      obtain ⟨b1, o1, rfl, _⟩ := hr.cons.cells' hs (by rw [intsL_len]; omega)
      have hst : stN l x = (z % (5 : Nat)).toNat := by simp [stN, hz]
      refine cw_region ?_
      refine lw_val rfl (run_move (v := .slice _ _ _) rfl) ?_
      refine lw_val rfl (run_move (v := .int .i64 _) rfl) ?_
      refine lw_val rfl (run_indexAddr Tryz.underlying22 sz3 rfl rfl rfl (by omega) rfl) ?_
      refine lw_val rfl (run_load Tryz.underlying3 rfl rfl (hr.cons.cellAt hs (intsL_at hz))) ?_
      refine lw_call rfl en17 (numberE_sl hs z 5 (by decide)) ?_
      clear hs
      rintro _ w ⟨rfl, hs⟩
      rw [← hst]
      refine lw_val rfl (run_assign (v := .int .i64 _) rfl) ?_
      refine lw_nil ?_
      refine cw_seq ?_
      refine cw_seq ?_
      obtain h5 | h5 | h5 | h5 | h5 : stN l x = 0 ∨ stN l x = 1 ∨ stN l x = 2 ∨ stN l x = 3 ∨ stN l x = 4 := by rw [hst]; have := Int.emod_lt_of_pos z (show (0 : Int) < (5 : Nat) by decide); have := Int.emod_nonneg z (show ((5 : Nat) : Int) ≠ 0 by decide); omega
      · skip
        refine cw_region ?_
        refine lw_val rfl (run_move (v := .int .i64 _) rfl) ?_
        refine lw_val rfl (run_geq rfl rfl) ?_
        refine lw_val rfl (run_move (v := .bool _) rfl) ?_
        refine lw_off rfl rfl rfl (decide_eq_false (by omega)) ?_
        refine lw_off rfl rfl rfl (decide_eq_false (by omega)) ?_
        refine lw_off rfl rfl rfl (decide_eq_false (by omega)) ?_
        refine lw_off rfl rfl rfl (decide_eq_false (by omega)) ?_
        refine lw_off rfl rfl rfl (decide_eq_false (by omega)) ?_
        refine lw_off rfl rfl rfl (decide_eq_false (by omega)) ?_
        refine lw_val rfl (run_pickF (v := .bool _) rfl (decide_eq_false (by omega)) rfl) ?_
        refine lw_nil ?_
        refine cw_iff rfl rfl ?_
        refine cw_skip ?_
        refine cw_seq ?_
        refine cw_seq ?_
        refine cw_region ?_
        refine lw_val rfl (run_move (v := .int .i64 _) rfl) ?_
        refine lw_val rfl (run_eqi rfl rfl) ?_
        refine lw_val rfl (run_move (v := .bool _) rfl) ?_
        refine lw_off rfl rfl rfl (decide_eq_false (by omega)) ?_
        refine lw_off rfl rfl rfl (decide_eq_false (by omega)) ?_
        refine lw_off rfl rfl rfl (decide_eq_false (by omega)) ?_
        refine lw_off rfl rfl rfl (decide_eq_false (by omega)) ?_
        refine lw_off rfl rfl rfl (decide_eq_false (by omega)) ?_
        refine lw_off rfl rfl rfl (decide_eq_false (by omega)) ?_
        refine lw_val rfl (run_pickF (v := .bool _) rfl (decide_eq_false (by omega)) rfl) ?_
        refine lw_nil ?_
        refine cw_iff rfl rfl ?_
        refine cw_skip ?_
        refine cw_seq ?_
        refine cw_seq ?_
        refine cw_region ?_
        refine lw_val rfl (run_move (v := .int .i64 _) rfl) ?_
        refine lw_val rfl (run_geq rfl rfl) ?_
        refine lw_val rfl (run_move (v := .bool _) rfl) ?_
        refine lw_off rfl rfl rfl (decide_eq_false (by omega)) ?_
        refine lw_off rfl rfl rfl (decide_eq_false (by omega)) ?_
        refine lw_off rfl rfl rfl (decide_eq_false (by omega)) ?_
        refine lw_off rfl rfl rfl (decide_eq_false (by omega)) ?_
        refine lw_off rfl rfl rfl (decide_eq_false (by omega)) ?_
        refine lw_off rfl rfl rfl (decide_eq_false (by omega)) ?_
        refine lw_val rfl (run_pickF (v := .bool _) rfl (decide_eq_false (by omega)) rfl) ?_
        refine lw_nil ?_
        refine cw_iff rfl rfl ?_
        refine cw_skip ?_
        refine cw_seq ?_
        refine cw_region ?_
        refine lw_val rfl (run_move (v := .int .i64 _) rfl) ?_
        refine lw_val rfl (run_eqi rfl rfl) ?_
        refine lw_val rfl (run_move (v := .bool _) rfl) ?_
        refine lw_off rfl rfl rfl (decide_eq_false (by omega)) ?_
        refine lw_off rfl rfl rfl (decide_eq_false (by omega)) ?_
        refine lw_off rfl rfl rfl (decide_eq_false (by omega)) ?_
        refine lw_off rfl rfl rfl (decide_eq_false (by omega)) ?_
        refine lw_off rfl rfl rfl (decide_eq_false (by omega)) ?_
        refine lw_off rfl rfl rfl (decide_eq_false (by omega)) ?_
        refine lw_val rfl (run_pickF (v := .bool _) rfl (decide_eq_false (by omega)) rfl) ?_
        refine lw_nil ?_
        refine cw_iff rfl rfl ?_
        refine cw_skip ?_
        refine cw_region ?_
        refine lw_val rfl (run_move (v := .int .i64 _) rfl) ?_
        refine lw_val rfl (run_add64 rfl rfl rfl (inI (by omega) (by omega))) ?_
        refine lw_val rfl (run_assign (v := .int .i64 _) rfl) ?_
        refine lw_nil ?_
        exact ⟨x + 1, by omega, ⟨by omega, by rw [hnx, if_pos h5, List.append_nil]; exact hs⟩, ⟨rfl, trivial⟩, by repeat (first | exact Out.mix _ _ _ | refine Out.updo rfl ?_ | refine Out.upd rfl ?_ | refine Out.mixIn rfl ?_)⟩
      · skip
        refine cw_region ?_
        refine lw_val rfl (run_move (v := .int .i64 _) rfl) ?_
        refine lw_val rfl (run_geq rfl rfl) ?_
        refine lw_val rfl (run_move (v := .bool _) rfl) ?_
        refine lw_on rfl rfl (decide_eq_true (by omega)) ?_
        refine lw_val rfl (run_move (v := .pointer (some _)) rfl) ?_
        refine lw_on rfl rfl (decide_eq_true (by omega)) ?_
        refine lw_val rfl (run_move (v := .int .i64 _) rfl) ?_
        refine lw_on rfl rfl (decide_eq_true (by omega)) ?_
        refine lw_call rfl en13 (one23_sl hs x (by omega)) ?_
        clear hs
        rintro _ w ⟨s1, s2, rfl, hs⟩
        refine lw_on rfl rfl (decide_eq_true (by omega)) ?_
        refine lw_val rfl (run_buildKM (k := 1) (m := oneM x (10 * x)) (e := s1) (o := s2) Tryz.underlying63 ze63 pl63 rfl rfl) ?_
        refine lw_on rfl rfl (decide_eq_true (by omega)) ?_
        refine lw_call rfl en29 (applyOne_sl hE hs (Vw.apply_first hok hfr (by omega))) ?_
        clear hs
        rintro _ w ⟨rfl, hs⟩
        refine lw_on rfl rfl (decide_eq_true (by omega)) ?_
        refine lw_val rfl (run_nenn rfl) ?_
        refine lw_val rfl (run_pickT (v := .bool _) rfl (decide_eq_true (by omega)) rfl) ?_
        refine lw_nil ?_
        refine cw_iff rfl (rfl) ?_
        refine cw_skip ?_
        refine cw_seq ?_
        refine cw_seq ?_
        refine cw_region ?_
        refine lw_val rfl (run_move (v := .int .i64 _) rfl) ?_
        refine lw_val rfl (run_eqi rfl rfl) ?_
        refine lw_val rfl (run_move (v := .bool _) rfl) ?_
        refine lw_off rfl rfl rfl (decide_eq_false (by omega)) ?_
        refine lw_off rfl rfl rfl (decide_eq_false (by omega)) ?_
        refine lw_off rfl rfl rfl (decide_eq_false (by omega)) ?_
        refine lw_off rfl rfl rfl (decide_eq_false (by omega)) ?_
        refine lw_off rfl rfl rfl (decide_eq_false (by omega)) ?_
        refine lw_off rfl rfl rfl (decide_eq_false (by omega)) ?_
        refine lw_val rfl (run_pickF (v := .bool _) rfl (decide_eq_false (by omega)) rfl) ?_
        refine lw_nil ?_
        refine cw_iff rfl rfl ?_
        refine cw_skip ?_
        refine cw_seq ?_
        refine cw_seq ?_
        refine cw_region ?_
        refine lw_val rfl (run_move (v := .int .i64 _) rfl) ?_
        refine lw_val rfl (run_geq rfl rfl) ?_
        refine lw_val rfl (run_move (v := .bool _) rfl) ?_
        refine lw_off rfl rfl rfl (decide_eq_false (by omega)) ?_
        refine lw_off rfl rfl rfl (decide_eq_false (by omega)) ?_
        refine lw_off rfl rfl rfl (decide_eq_false (by omega)) ?_
        refine lw_off rfl rfl rfl (decide_eq_false (by omega)) ?_
        refine lw_off rfl rfl rfl (decide_eq_false (by omega)) ?_
        refine lw_off rfl rfl rfl (decide_eq_false (by omega)) ?_
        refine lw_val rfl (run_pickF (v := .bool _) rfl (decide_eq_false (by omega)) rfl) ?_
        refine lw_nil ?_
        refine cw_iff rfl rfl ?_
        refine cw_skip ?_
        refine cw_seq ?_
        refine cw_region ?_
        refine lw_val rfl (run_move (v := .int .i64 _) rfl) ?_
        refine lw_val rfl (run_eqi rfl rfl) ?_
        refine lw_val rfl (run_move (v := .bool _) rfl) ?_
        refine lw_off rfl rfl rfl (decide_eq_false (by omega)) ?_
        refine lw_off rfl rfl rfl (decide_eq_false (by omega)) ?_
        refine lw_off rfl rfl rfl (decide_eq_false (by omega)) ?_
        refine lw_off rfl rfl rfl (decide_eq_false (by omega)) ?_
        refine lw_off rfl rfl rfl (decide_eq_false (by omega)) ?_
        refine lw_off rfl rfl rfl (decide_eq_false (by omega)) ?_
        refine lw_val rfl (run_pickF (v := .bool _) rfl (decide_eq_false (by omega)) rfl) ?_
        refine lw_nil ?_
        refine cw_iff rfl rfl ?_
        refine cw_skip ?_
        refine cw_region ?_
        refine lw_val rfl (run_move (v := .int .i64 _) rfl) ?_
        refine lw_val rfl (run_add64 rfl rfl rfl (inI (by omega) (by omega))) ?_
        refine lw_val rfl (run_assign (v := .int .i64 _) rfl) ?_
        refine lw_nil ?_
        exact ⟨x + 1, by omega, ⟨by omega, by rw [hnx, if_neg (by omega), h5]; exact hs⟩, ⟨rfl, trivial⟩, by repeat (first | exact Out.mix _ _ _ | refine Out.updo rfl ?_ | refine Out.upd rfl ?_ | refine Out.mixIn rfl ?_)⟩
      · skip
        refine cw_region ?_
        refine lw_val rfl (run_move (v := .int .i64 _) rfl) ?_
        refine lw_val rfl (run_geq rfl rfl) ?_
        refine lw_val rfl (run_move (v := .bool _) rfl) ?_
        refine lw_on rfl rfl (decide_eq_true (by omega)) ?_
        refine lw_val rfl (run_move (v := .pointer (some _)) rfl) ?_
        refine lw_on rfl rfl (decide_eq_true (by omega)) ?_
        refine lw_val rfl (run_move (v := .int .i64 _) rfl) ?_
        refine lw_on rfl rfl (decide_eq_true (by omega)) ?_
        refine lw_call rfl en13 (one23_sl hs x (by omega)) ?_
        clear hs
        rintro _ w ⟨s1, s2, rfl, hs⟩
        refine lw_on rfl rfl (decide_eq_true (by omega)) ?_
        refine lw_val rfl (run_buildKM (k := 1) (m := oneM x (10 * x)) (e := s1) (o := s2) Tryz.underlying63 ze63 pl63 rfl rfl) ?_
        refine lw_on rfl rfl (decide_eq_true (by omega)) ?_
        refine lw_call rfl en29 (applyOne_sl hE hs (Vw.apply_first hok hfr (by omega))) ?_
        clear hs
        rintro _ w ⟨rfl, hs⟩
        refine lw_on rfl rfl (decide_eq_true (by omega)) ?_
        refine lw_val rfl (run_nenn rfl) ?_
        refine lw_val rfl (run_pickT (v := .bool _) rfl (decide_eq_true (by omega)) rfl) ?_
        refine lw_nil ?_
        refine cw_iff rfl (rfl) ?_
        refine cw_skip ?_
        refine cw_seq ?_
        refine cw_seq ?_
        refine cw_region ?_
        refine lw_val rfl (run_move (v := .int .i64 _) rfl) ?_
        refine lw_val rfl (run_eqi rfl rfl) ?_
        refine lw_val rfl (run_move (v := .bool _) rfl) ?_
        refine lw_on rfl rfl (decide_eq_true (by omega)) ?_
        refine lw_val rfl (run_move (v := .pointer (some _)) rfl) ?_
        refine lw_on rfl rfl (decide_eq_true (by omega)) ?_
        refine lw_val rfl (run_move (v := .int .i64 _) rfl) ?_
        refine lw_on rfl rfl (decide_eq_true (by omega)) ?_
        refine lw_call rfl en13 (one23_sl hs x (by omega)) ?_
        clear hs
        rintro _ w ⟨s1, s2, rfl, hs⟩
        refine lw_on rfl rfl (decide_eq_true (by omega)) ?_
        refine lw_val rfl (run_buildKM (k := 2) (m := oneM x (10 * x)) (e := s1) (o := s2) Tryz.underlying63 ze63 pl63 rfl rfl) ?_
        refine lw_on rfl rfl (decide_eq_true (by omega)) ?_
        refine lw_call rfl en29 (applyOne_sl hE hs (Vw.apply_last hok hfr (s := 1) (k := 2) (by decide))) ?_
        clear hs
        rintro _ w ⟨rfl, hs⟩
        refine lw_on rfl rfl (decide_eq_true (by omega)) ?_
        refine lw_val rfl (run_nenn rfl) ?_
        refine lw_val rfl (run_pickT (v := .bool _) rfl (decide_eq_true (by omega)) rfl) ?_
        refine lw_nil ?_
        refine cw_iff rfl (rfl) ?_
        refine cw_skip ?_
        refine cw_seq ?_
        refine cw_seq ?_
        refine cw_region ?_
        refine lw_val rfl (run_move (v := .int .i64 _) rfl) ?_
        refine lw_val rfl (run_geq rfl rfl) ?_
        refine lw_val rfl (run_move (v := .bool _) rfl) ?_
        refine lw_off rfl rfl rfl (decide_eq_false (by omega)) ?_
        refine lw_off rfl rfl rfl (decide_eq_false (by omega)) ?_
        refine lw_off rfl rfl rfl (decide_eq_false (by omega)) ?_
        refine lw_off rfl rfl rfl (decide_eq_false (by omega)) ?_
        refine lw_off rfl rfl rfl (decide_eq_false (by omega)) ?_
        refine lw_off rfl rfl rfl (decide_eq_false (by omega)) ?_
        refine lw_val rfl (run_pickF (v := .bool _) rfl (decide_eq_false (by omega)) rfl) ?_
        refine lw_nil ?_
        refine cw_iff rfl rfl ?_
        refine cw_skip ?_
        refine cw_seq ?_
        refine cw_region ?_
        refine lw_val rfl (run_move (v := .int .i64 _) rfl) ?_
        refine lw_val rfl (run_eqi rfl rfl) ?_
        refine lw_val rfl (run_move (v := .bool _) rfl) ?_
        refine lw_off rfl rfl rfl (decide_eq_false (by omega)) ?_
        refine lw_off rfl rfl rfl (decide_eq_false (by omega)) ?_
        refine lw_off rfl rfl rfl (decide_eq_false (by omega)) ?_
        refine lw_off rfl rfl rfl (decide_eq_false (by omega)) ?_
        refine lw_off rfl rfl rfl (decide_eq_false (by omega)) ?_
        refine lw_off rfl rfl rfl (decide_eq_false (by omega)) ?_
        refine lw_val rfl (run_pickF (v := .bool _) rfl (decide_eq_false (by omega)) rfl) ?_
        refine lw_nil ?_
        refine cw_iff rfl rfl ?_
        refine cw_skip ?_
        refine cw_region ?_
        refine lw_val rfl (run_move (v := .int .i64 _) rfl) ?_
        refine lw_val rfl (run_add64 rfl rfl rfl (inI (by omega) (by omega))) ?_
        refine lw_val rfl (run_assign (v := .int .i64 _) rfl) ?_
        refine lw_nil ?_
        exact ⟨x + 1, by omega, ⟨by omega, by rw [hnx, if_neg (by omega), h5]; exact hs⟩, ⟨rfl, trivial⟩, by repeat (first | exact Out.mix _ _ _ | refine Out.updo rfl ?_ | refine Out.upd rfl ?_ | refine Out.mixIn rfl ?_)⟩
      · skip
        refine cw_region ?_
        refine lw_val rfl (run_move (v := .int .i64 _) rfl) ?_
        refine lw_val rfl (run_geq rfl rfl) ?_
        refine lw_val rfl (run_move (v := .bool _) rfl) ?_
        refine lw_on rfl rfl (decide_eq_true (by omega)) ?_
        refine lw_val rfl (run_move (v := .pointer (some _)) rfl) ?_
        refine lw_on rfl rfl (decide_eq_true (by omega)) ?_
        refine lw_val rfl (run_move (v := .int .i64 _) rfl) ?_
        refine lw_on rfl rfl (decide_eq_true (by omega)) ?_
        refine lw_call rfl en13 (one23_sl hs x (by omega)) ?_
        clear hs
        rintro _ w ⟨s1, s2, rfl, hs⟩
        refine lw_on rfl rfl (decide_eq_true (by omega)) ?_
        refine lw_val rfl (run_buildKM (k := 1) (m := oneM x (10 * x)) (e := s1) (o := s2) Tryz.underlying63 ze63 pl63 rfl rfl) ?_
        refine lw_on rfl rfl (decide_eq_true (by omega)) ?_
        refine lw_call rfl en29 (applyOne_sl hE hs (Vw.apply_first hok hfr (by omega))) ?_
        clear hs
        rintro _ w ⟨rfl, hs⟩
        refine lw_on rfl rfl (decide_eq_true (by omega)) ?_
        refine lw_val rfl (run_nenn rfl) ?_
        refine lw_val rfl (run_pickT (v := .bool _) rfl (decide_eq_true (by omega)) rfl) ?_
        refine lw_nil ?_
        refine cw_iff rfl (rfl) ?_
        refine cw_skip ?_
        refine cw_seq ?_
        refine cw_seq ?_
        refine cw_region ?_
        refine lw_val rfl (run_move (v := .int .i64 _) rfl) ?_
        refine lw_val rfl (run_eqi rfl rfl) ?_
        refine lw_val rfl (run_move (v := .bool _) rfl) ?_
        refine lw_off rfl rfl rfl (decide_eq_false (by omega)) ?_
        refine lw_off rfl rfl rfl (decide_eq_false (by omega)) ?_
        refine lw_off rfl rfl rfl (decide_eq_false (by omega)) ?_
        refine lw_off rfl rfl rfl (decide_eq_false (by omega)) ?_
        refine lw_off rfl rfl rfl (decide_eq_false (by omega)) ?_
        refine lw_off rfl rfl rfl (decide_eq_false (by omega)) ?_
        refine lw_val rfl (run_pickF (v := .bool _) rfl (decide_eq_false (by omega)) rfl) ?_
        refine lw_nil ?_
        refine cw_iff rfl rfl ?_
        refine cw_skip ?_
        refine cw_seq ?_
        refine cw_seq ?_
        refine cw_region ?_
        refine lw_val rfl (run_move (v := .int .i64 _) rfl) ?_
        refine lw_val rfl (run_geq rfl rfl) ?_
        refine lw_val rfl (run_move (v := .bool _) rfl) ?_
        refine lw_on rfl rfl (decide_eq_true (by omega)) ?_
        refine lw_val rfl (run_move (v := .pointer (some _)) rfl) ?_
        refine lw_on rfl rfl (decide_eq_true (by omega)) ?_
        refine lw_val rfl (run_move (v := .int .i64 _) rfl) ?_
        refine lw_on rfl rfl (decide_eq_true (by omega)) ?_
        refine lw_call rfl en13 (one23_sl hs x (by omega)) ?_
        clear hs
        rintro _ w ⟨s1, s2, rfl, hs⟩
        refine lw_on rfl rfl (decide_eq_true (by omega)) ?_
        refine lw_val rfl (run_buildKM (k := 3) (m := oneM x (10 * x)) (e := s1) (o := s2) Tryz.underlying63 ze63 pl63 rfl rfl) ?_
        refine lw_on rfl rfl (decide_eq_true (by omega)) ?_
        refine lw_call rfl en29 (applyOne_sl hE hs (Vw.apply_last hok hfr (s := 1) (k := 3) (by decide))) ?_
        clear hs
        rintro _ w ⟨rfl, hs⟩
        refine lw_on rfl rfl (decide_eq_true (by omega)) ?_
        refine lw_val rfl (run_nenn rfl) ?_
        refine lw_val rfl (run_pickT (v := .bool _) rfl (decide_eq_true (by omega)) rfl) ?_
        refine lw_nil ?_
        refine cw_iff rfl (rfl) ?_
        refine cw_skip ?_
        refine cw_seq ?_
        refine cw_region ?_
        refine lw_val rfl (run_move (v := .int .i64 _) rfl) ?_
        refine lw_val rfl (run_eqi rfl rfl) ?_
        refine lw_val rfl (run_move (v := .bool _) rfl) ?_
        refine lw_off rfl rfl rfl (decide_eq_false (by omega)) ?_
        refine lw_off rfl rfl rfl (decide_eq_false (by omega)) ?_
        refine lw_off rfl rfl rfl (decide_eq_false (by omega)) ?_
        refine lw_off rfl rfl rfl (decide_eq_false (by omega)) ?_
        refine lw_off rfl rfl rfl (decide_eq_false (by omega)) ?_
        refine lw_off rfl rfl rfl (decide_eq_false (by omega)) ?_
        refine lw_val rfl (run_pickF (v := .bool _) rfl (decide_eq_false (by omega)) rfl) ?_
        refine lw_nil ?_
        refine cw_iff rfl rfl ?_
        refine cw_skip ?_
        refine cw_region ?_
        refine lw_val rfl (run_move (v := .int .i64 _) rfl) ?_
        refine lw_val rfl (run_add64 rfl rfl rfl (inI (by omega) (by omega))) ?_
        refine lw_val rfl (run_assign (v := .int .i64 _) rfl) ?_
        refine lw_nil ?_
        exact ⟨x + 1, by omega, ⟨by omega, by rw [hnx, if_neg (by omega), h5]; exact hs⟩, ⟨rfl, trivial⟩, by repeat (first | exact Out.mix _ _ _ | refine Out.updo rfl ?_ | refine Out.upd rfl ?_ | refine Out.mixIn rfl ?_)⟩
      · skip
        refine cw_region ?_
        refine lw_val rfl (run_move (v := .int .i64 _) rfl) ?_
        refine lw_val rfl (run_geq rfl rfl) ?_
        refine lw_val rfl (run_move (v := .bool _) rfl) ?_
        refine lw_on rfl rfl (decide_eq_true (by omega)) ?_
        refine lw_val rfl (run_move (v := .pointer (some _)) rfl) ?_
        refine lw_on rfl rfl (decide_eq_true (by omega)) ?_
        refine lw_val rfl (run_move (v := .int .i64 _) rfl) ?_
        refine lw_on rfl rfl (decide_eq_true (by omega)) ?_
        refine lw_call rfl en13 (one23_sl hs x (by omega)) ?_
        clear hs
        rintro _ w ⟨s1, s2, rfl, hs⟩
        refine lw_on rfl rfl (decide_eq_true (by omega)) ?_
        refine lw_val rfl (run_buildKM (k := 1) (m := oneM x (10 * x)) (e := s1) (o := s2) Tryz.underlying63 ze63 pl63 rfl rfl) ?_
        refine lw_on rfl rfl (decide_eq_true (by omega)) ?_
        refine lw_call rfl en29 (applyOne_sl hE hs (Vw.apply_first hok hfr (by omega))) ?_
        clear hs
        rintro _ w ⟨rfl, hs⟩
        refine lw_on rfl rfl (decide_eq_true (by omega)) ?_
        refine lw_val rfl (run_nenn rfl) ?_
        refine lw_val rfl (run_pickT (v := .bool _) rfl (decide_eq_true (by omega)) rfl) ?_
        refine lw_nil ?_
        refine cw_iff rfl (rfl) ?_
        refine cw_skip ?_
        refine cw_seq ?_
        refine cw_seq ?_
        refine cw_region ?_
        refine lw_val rfl (run_move (v := .int .i64 _) rfl) ?_
        refine lw_val rfl (run_eqi rfl rfl) ?_
        refine lw_val rfl (run_move (v := .bool _) rfl) ?_
        refine lw_off rfl rfl rfl (decide_eq_false (by omega)) ?_
        refine lw_off rfl rfl rfl (decide_eq_false (by omega)) ?_
        refine lw_off rfl rfl rfl (decide_eq_false (by omega)) ?_
        refine lw_off rfl rfl rfl (decide_eq_false (by omega)) ?_
        refine lw_off rfl rfl rfl (decide_eq_false (by omega)) ?_
        refine lw_off rfl rfl rfl (decide_eq_false (by omega)) ?_
        refine lw_val rfl (run_pickF (v := .bool _) rfl (decide_eq_false (by omega)) rfl) ?_
        refine lw_nil ?_
        refine cw_iff rfl rfl ?_
        refine cw_skip ?_
        refine cw_seq ?_
        refine cw_seq ?_
        refine cw_region ?_
        refine lw_val rfl (run_move (v := .int .i64 _) rfl) ?_
        refine lw_val rfl (run_geq rfl rfl) ?_
        refine lw_val rfl (run_move (v := .bool _) rfl) ?_
        refine lw_on rfl rfl (decide_eq_true (by omega)) ?_
        refine lw_val rfl (run_move (v := .pointer (some _)) rfl) ?_
        refine lw_on rfl rfl (decide_eq_true (by omega)) ?_
        refine lw_val rfl (run_move (v := .int .i64 _) rfl) ?_
        refine lw_on rfl rfl (decide_eq_true (by omega)) ?_
        refine lw_call rfl en13 (one23_sl hs x (by omega)) ?_
        clear hs
        rintro _ w ⟨s1, s2, rfl, hs⟩
        refine lw_on rfl rfl (decide_eq_true (by omega)) ?_
        refine lw_val rfl (run_buildKM (k := 3) (m := oneM x (10 * x)) (e := s1) (o := s2) Tryz.underlying63 ze63 pl63 rfl rfl) ?_
        refine lw_on rfl rfl (decide_eq_true (by omega)) ?_
        refine lw_call rfl en29 (applyOne_sl hE hs (Vw.apply_last hok hfr (s := 1) (k := 3) (by decide))) ?_
        clear hs
        rintro _ w ⟨rfl, hs⟩
        refine lw_on rfl rfl (decide_eq_true (by omega)) ?_
        refine lw_val rfl (run_nenn rfl) ?_
        refine lw_val rfl (run_pickT (v := .bool _) rfl (decide_eq_true (by omega)) rfl) ?_
        refine lw_nil ?_
        refine cw_iff rfl (rfl) ?_
        refine cw_skip ?_
        refine cw_seq ?_
        refine cw_region ?_
        refine lw_val rfl (run_move (v := .int .i64 _) rfl) ?_
        refine lw_val rfl (run_eqi rfl rfl) ?_
        refine lw_val rfl (run_move (v := .bool _) rfl) ?_
        refine lw_on rfl rfl (decide_eq_true (by omega)) ?_
        refine lw_val rfl (run_move (v := .pointer (some _)) rfl) ?_
        refine lw_on rfl rfl (decide_eq_true (by omega)) ?_
        refine lw_val rfl (run_move (v := .int .i64 _) rfl) ?_
        refine lw_on rfl rfl (decide_eq_true (by omega)) ?_
        refine lw_call rfl en13 (one23_sl hs x (by omega)) ?_
        clear hs
        rintro _ w ⟨s1, s2, rfl, hs⟩
        refine lw_on rfl rfl (decide_eq_true (by omega)) ?_
        refine lw_val rfl (run_buildKM (k := 4) (m := oneM x (10 * x)) (e := s1) (o := s2) Tryz.underlying63 ze63 pl63 rfl rfl) ?_
        refine lw_on rfl rfl (decide_eq_true (by omega)) ?_
        refine lw_call rfl en29 (applyOne_sl hE hs (Vw.apply_last hok hfr (s := 3) (k := 4) (by decide))) ?_
        clear hs
        rintro _ w ⟨rfl, hs⟩
        refine lw_on rfl rfl (decide_eq_true (by omega)) ?_
        refine lw_val rfl (run_nenn rfl) ?_
        refine lw_val rfl (run_pickT (v := .bool _) rfl (decide_eq_true (by omega)) rfl) ?_
        refine lw_nil ?_
        refine cw_iff rfl (rfl) ?_
        refine cw_skip ?_
        refine cw_region ?_
        refine lw_val rfl (run_move (v := .int .i64 _) rfl) ?_
        refine lw_val rfl (run_add64 rfl rfl rfl (inI (by omega) (by omega))) ?_
        refine lw_val rfl (run_assign (v := .int .i64 _) rfl) ?_
        refine lw_nil ?_
        exact ⟨x + 1, by omega, ⟨by omega, by rw [hnx, if_neg (by omega), h5]; exact hs⟩, ⟨rfl, trivial⟩, by repeat (first | exact Out.mix _ _ _ | refine Out.updo rfl ?_ | refine Out.upd rfl ?_ | refine Out.mixIn rfl ?_)⟩
    · intro h16
      have g16 := of_decide_eq_false h16
      have hst : stN l x = 0 := by simp [stN, List.getElem?_eq_none (show l.length ≤ x by omega)]
      refine cw_skip ?_
      refine cw_seq ?_
      refine cw_seq ?_
      refine cw_region ?_
      refine lw_val rfl (run_move (v := .int .i64 _) rfl) ?_
      refine lw_val rfl (run_geq rfl rfl) ?_
      refine lw_val rfl (run_move (v := .bool _) rfl) ?_
      refine lw_off rfl rfl rfl (rfl) ?_
      refine lw_off rfl rfl rfl (rfl) ?_
      refine lw_off rfl rfl rfl (rfl) ?_
      refine lw_off rfl rfl rfl (rfl) ?_
      refine lw_off rfl rfl rfl (rfl) ?_
      refine lw_off rfl rfl rfl (rfl) ?_
      refine lw_val rfl (run_pickF (v := .bool _) rfl (rfl) rfl) ?_
      refine lw_nil ?_
      refine cw_iff rfl rfl ?_
      refine cw_skip ?_
      refine cw_seq ?_
      refine cw_seq ?_
      refine cw_region ?_
      refine lw_val rfl (run_move (v := .int .i64 _) rfl) ?_
      refine lw_val rfl (run_eqi rfl rfl) ?_
      refine lw_val rfl (run_move (v := .bool _) rfl) ?_
      refine lw_off rfl rfl rfl (rfl) ?_
      refine lw_off rfl rfl rfl (rfl) ?_
      refine lw_off rfl rfl rfl (rfl) ?_
      refine lw_off rfl rfl rfl (rfl) ?_
      refine lw_off rfl rfl rfl (rfl) ?_
      refine lw_off rfl rfl rfl (rfl) ?_
      refine lw_val rfl (run_pickF (v := .bool _) rfl (rfl) rfl) ?_
      refine lw_nil ?_
      refine cw_iff rfl rfl ?_
      refine cw_skip ?_
      refine cw_seq ?_
      refine cw_seq ?_
      refine cw_region ?_
      refine lw_val rfl (run_move (v := .int .i64 _) rfl) ?_
      refine lw_val rfl (run_geq rfl rfl) ?_
      refine lw_val rfl (run_move (v := .bool _) rfl) ?_
      refine lw_off rfl rfl rfl (rfl) ?_
      refine lw_off rfl rfl rfl (rfl) ?_
      refine lw_off rfl rfl rfl (rfl) ?_
      refine lw_off rfl rfl rfl (rfl) ?_
      refine lw_off rfl rfl rfl (rfl) ?_
      refine lw_off rfl rfl rfl (rfl) ?_
      refine lw_val rfl (run_pickF (v := .bool _) rfl (rfl) rfl) ?_
      refine lw_nil ?_
      refine cw_iff rfl rfl ?_
      refine cw_skip ?_
      refine cw_seq ?_
      refine cw_region ?_
      refine lw_val rfl (run_move (v := .int .i64 _) rfl) ?_
      refine lw_val rfl (run_eqi rfl rfl) ?_
      refine lw_val rfl (run_move (v := .bool _) rfl) ?_
      refine lw_off rfl rfl rfl (rfl) ?_
      refine lw_off rfl rfl rfl (rfl) ?_
      refine lw_off rfl rfl rfl (rfl) ?_
      refine lw_off rfl rfl rfl (rfl) ?_
      refine lw_off rfl rfl rfl (rfl) ?_
      refine lw_off rfl rfl rfl (rfl) ?_
      refine lw_val rfl (run_pickF (v := .bool _) rfl (rfl) rfl) ?_
      refine lw_nil ?_
      refine cw_iff rfl rfl ?_
      refine cw_skip ?_
      refine cw_region ?_
      refine lw_val rfl (run_move (v := .int .i64 _) rfl) ?_
      refine lw_val rfl (run_add64 rfl rfl rfl (inI (by omega) (by omega))) ?_
      refine lw_val rfl (run_assign (v := .int .i64 _) rfl) ?_
      refine lw_nil ?_
      exact ⟨x + 1, by omega, ⟨by omega, by rw [hnx, if_pos hst, List.append_nil]; exact hs⟩, ⟨rfl, trivial⟩, by repeat (first | exact Out.mix _ _ _ | refine Out.updo rfl ?_ | refine Out.upd rfl ?_ | refine Out.mixIn rfl ?_)⟩
  · intro h10
    have g10 := of_decide_eq_false h10
    refine cw_exit rfl ?_
    refine cw_seq ?_
    refine cw_region ?_
    refine lw_val rfl (run_move (v := .pointer (some _)) rfl) ?_
    refine lw_val rfl (run_assign (v := .pointer (some _)) rfl) ?_
    refine lw_nil ?_
    refine cw_ret ?_
    refine res1 (v := .pointer (some _)) rfl rfl ?_
    obtain rfl : x = 4 := by omega
    exact ⟨_, rfl, p, rfl, hs⟩
end Go.Proofs.YtkogkokmcmallaaGreatDoor
