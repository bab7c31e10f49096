/- CallStarts: the walk. -/
import Derived.Test.YtjiigajekminaaaDoorOp
import Derived.Test.YtjiigajekminaaaDoorCT
namespace Go.Proofs.YtjiigajekminaaaDoor
set_option linter.all false
open Go.RowKit
attribute [local irreducible] errV
variable {g w : World} {L M : List HP} {ad : Nat → Addr} {p q : Nat} {st : St}

def nU : ByteArray := ⟨#[117]⟩
theorem nU_valid : validB nU.data.toList = true := by decide +kernel
def upsU (n : Nat) : List (Int × Up) := (List.range n).map fun (i : Nat) => (((i + 1 : Nat) : Int), (⟨nU, []⟩ : Up))
def stU (n : Nat) (s : List Int) (c f : Nat) : St := { objs := [], ups := upsU n, ids := n, script := s, calls := c, failed := f }
theorem keys_upsU (n : Nat) : keysOf (upsU n) = (List.range n).map fun (i : Nat) => ((i + 1 : Nat) : Int) := by simp [keysOf, upsU, List.map_map, Function.comp_def]
theorem upsU_len (n : Nat) : (upsU n).length = n := by simp [upsU]
theorem upsU_none (n : Nat) : aget (upsU n) ((n + 1 : Nat) : Int) = none := by
  rw [aget_none_iff, keys_upsU]
  simp only [List.mem_map, List.mem_range, not_exists, not_and]
  intro x hx h
  omega
theorem aput_new {κ α : Type} [DecidableEq κ] {l : List (κ × α)} {k : κ} {v : α} (h : aget l k = none) : aput l k v = l ++ [(k, v)] := by
  induction l with
  | nil => rfl
  | cons x l ih =>
    obtain ⟨a, b⟩ := x
    simp only [aget] at h
    simp only [List.cons_append, aput]
    split
    · rename_i e; rw [if_pos e] at h; cases h
    · rename_i e; rw [if_neg e] at h; rw [ih h]
theorem upsU_put (n : Nat) : aput (upsU n) ((n + 1 : Nat) : Int) ⟨nU, []⟩ = upsU (n + 1) := by
  rw [aput_new (upsU_none n)]; simp [upsU, List.range_succ]
theorem startU_lost (n c f : Nat) (s : List Int) : (stU n (2 :: s) c f).startR nU = (0, 111, stU (n + 1) s (c + 1) (f + 1)) := by
  have := upsU_put n
  simp [St.startR, St.next, St.begin, stU, St.start1, nU_valid] at this ⊢
  exact this
theorem startU_ok (n c f : Nat) : (stU n [] c f).startR nU = (((n + 1 : Nat) : Int), 0, stU (n + 1) [] (c + 1) f) := by
  have := upsU_put n
  simp [St.startR, St.next, St.begin, stU, St.start1, nU_valid] at this ⊢
  exact this
theorem startsU : ∀ (t k n c f : Nat) (i : Int), ∃ lost x m c2 f2 s2 i2, againR (startStep nU) t (stU n (List.replicate k 2) c f, i) = (lost, x, m, stU (if t ≤ k then n + t else n + k + 1) s2 c2 f2, i2) ∧ (t ≤ k → x = 111 ∧ (0 < t → i2 = 0)) ∧ (k < t → x = 0 ∧ i2 = ((n + k + 1 : Nat) : Int)) ∧ c2 ≤ c + t ∧ f2 ≤ f + t
  | 0, k, n, c, f, i => ⟨_, _, _, c, f, _, _, by simp only [againR]; rw [if_pos (Nat.zero_le _)]; rfl, fun _ => ⟨rfl, fun h => absurd h (by omega)⟩, fun h => absurd h (by omega), by omega, by omega⟩
  | t + 1, 0, n, c, f, i => by
    have h := startU_ok n c f
    refine ⟨false, 0, 1, c + 1, f, [], ((n + 1 : Nat) : Int), ?_, fun h => absurd h (by omega), fun _ => ⟨rfl, rfl⟩, by omega, by omega⟩
    rw [if_neg (by omega)]
    simp [againR, startStep, h]
  | t + 1, k + 1, n, c, f, i => by
    have h := startU_lost n c f (List.replicate k 2)
    obtain ⟨lost, x, m, c2, f2, s2, i2, h1, h2, h3, h4, h5⟩ := startsU t k (n + 1) (c + 1) (f + 1) 0
    refine ⟨true, x, m + 1, c2, f2, s2, i2, ?_, fun h => ?_, fun h => ?_, by omega, by omega⟩
    · simp only [againR, startStep, List.replicate_succ, h, if_true]
      rw [h1]
      by_cases ht : t ≤ k
      · rw [if_pos ht, if_pos (by omega), show n + 1 + t = n + (t + 1) by omega]
      · rw [if_neg ht, if_neg (by omega), show n + 1 + k + 1 = n + (k + 1) + 1 by omega]
    · obtain ⟨e1, e2⟩ := h2 (by omega)
      refine ⟨e1, fun _ => ?_⟩
      by_cases ht : 0 < t
      · exact e2 ht
      · have : t = 0 := by omega
        subst this
        simp only [againR] at h1
        simp only [Prod.mk.injEq] at h1
        exact h1.2.2.2.2.symm
    · obtain ⟨e1, e2⟩ := h3 (by omega)
      exact ⟨e1, by rw [e2]; congr 1; omega⟩
theorem sortI_range (n : Nat) : sortI ((List.range n).map fun (i : Nat) => ((i + 1 : Nat) : Int)) = (List.range n).map fun (i : Nat) => ((i + 1 : Nat) : Int) := by
  refine List.mergeSort_of_pairwise ?_
  rw [List.pairwise_map]
  exact List.pairwise_lt_range.imp fun h => by simp only [decide_eq_true_eq]; omega
theorem sortU (n : Nat) : sortI (keysOf (upsU n)) = (List.range n).map fun (i : Nat) => ((i + 1 : Nat) : Int) := by rw [keys_upsU, sortI_range]
theorem openU_sl {n : Nat} {s : List Int} {c f : Nat} (hn : n ≤ 1000) (hs : Mem g w (StoreC p (stU n s c f) :: L)) : Calls Tryd.prog 54 #[.pointer (some ⟨p, 0, none⟩)] w
    (Ret fun v w' => ∃ a c', v = .slice a n c' ∧ Mem g w' (own (.slice a n c') (intsL ((List.range n).map fun (i : Nat) => ((i + 1 : Nat) : Int))) :: StoreC p (stU n s c f) :: L)) := by
  have h := open_sl hs (fun x hx => by
    rw [show (stU n s c f).ups = upsU n from rfl, keys_upsU] at hx
    obtain ⟨j, hj, rfl⟩ := List.mem_map.1 hx
    have := List.mem_range.1 hj
    exact ⟨by omega, by omega⟩) (by rw [show (stU n s c f).ups = upsU n from rfl, upsU_len]; omega)
  rw [show (stU n s c f).ups = upsU n from rfl, sortU] at h
  simpa using h

set_option maxHeartbeats 2000000 in
set_option maxRecDepth 10000 in
theorem callStarts_sl (hE : ErrG ad g) (hs : Mem g w []) {lo ta : Int} :
    Calls Tryd.prog 13 #[.int .i64 lo, .int .i64 ta] w (Ret fun v w' => v = .bool true ∧ Mem g w' []) := by
  refine calls_cw Tryd.func13 rfl rfl ?_
  skip
  refine cw_seq ?_
  refine cw_region ?_
  first | refine lw_val rfl (run_assign (v := .bool _) rfl) ?_
  refine lw_nil ?_
  refine cw_seq ?_
  refine cw_region ?_
  refine lw_call rfl en33 (first12_sl hE hs) ?_
  clear hs
  rintro _ w ⟨rfl, hs⟩
  first | refine lw_val rfl (run_assign (v := .bool _) rfl) ?_
  refine lw_nil ?_
  refine cw_seq ?_
  refine cw_seq ?_
  refine cw_region ?_
  first | refine lw_val rfl (run_move (v := .bool _) rfl) ?_
  refine lw_val rfl (run_not rfl) ?_
  refine lw_nil ?_
  refine cw_iff rfl (not_f (rfl)) ?_
  refine cw_skip ?_
  refine cw_seq ?_
  refine cw_region ?_
  first | refine lw_val rfl (run_move (v := .int .i64 _) rfl) ?_
  refine lw_call rfl en34 (number_sl hs _ _ (by decide)) ?_
  clear hs
  rintro _ w ⟨t0, ht, rfl, hs⟩
  refine lw_val rfl (run_add64 rfl rfl rfl (inI (by omega) (by omega))) ?_
  first | refine lw_val rfl (run_assign (v := .int .i64 _) rfl) ?_
  refine lw_nil ?_
  refine cw_seq ?_
  refine cw_region ?_
  first | refine lw_val rfl (run_move (v := .int .i64 _) rfl) ?_
  refine lw_call rfl en34 (number_sl hs _ _ (by decide)) ?_
  clear hs
  rintro _ w ⟨k, hk, rfl, hs⟩
  first | refine lw_val rfl (run_assign (v := .int .i64 _) rfl) ?_
  refine lw_nil ?_
  refine cw_seq ?_
  refine cw_region ?_
  refine lw_call rfl en21 (new_sl hs) ?_
  clear hs
  rintro _ w ⟨p, rfl, hs⟩
  first | refine lw_val rfl (run_assign (v := .pointer (some _)) rfl) ?_ | refine lw_val rfl (run_assign (v := .pointer none) rfl) ?_
  refine lw_nil ?_
  refine cw_seq ?_
  refine cw_region ?_
  first | refine lw_val rfl (run_move (v := .pointer (some _)) rfl) ?_ | refine lw_val rfl (run_move (v := .pointer none) rfl) ?_
  first | refine lw_val rfl (run_move (v := .int .i64 _) rfl) ?_
  refine lw_call rfl en35 (clnew_sl (t := ((t0 + 1 : Nat) : Int)) hE hs (by omega)) ?_
  clear hs
  rintro _ w ⟨q, rfl, hs⟩
  first | refine lw_val rfl (run_move (v := .tuple _) rfl) ?_
  first | refine lw_val rfl (run_extract (v := .pointer (some _)) rfl rfl) ?_ | refine lw_val rfl (run_extract (v := .pointer none) rfl rfl) ?_
  first | refine lw_val rfl (run_extract (v := errV ad _) rfl rfl) ?_ | refine lw_val rfl (run_extract (v := .nilIface) rfl rfl) ?_
  first | refine lw_val rfl (run_assign (v := .pointer (some _)) rfl) ?_ | refine lw_val rfl (run_assign (v := .pointer none) rfl) ?_
  first | refine lw_val rfl (run_assign (v := errV ad _) rfl) ?_ | refine lw_val rfl (run_assign (v := .nilIface) rfl) ?_
  refine lw_nil ?_
  refine cw_seq ?_
  refine cw_seq ?_
  refine cw_region ?_
  first | refine lw_val rfl (run_move (v := .pointer (some _)) rfl) ?_ | refine lw_val rfl (run_move (v := .pointer none) rfl) ?_
  refine lw_val rfl (run_eqpn Tryd.underlying47 rfl rfl) ?_
  first | refine lw_val rfl (run_move (v := .bool _) rfl) ?_
  refine lw_on rfl rfl rfl ?_
  first | refine lw_val rfl (run_move (v := errV ad _) rfl) ?_ | refine lw_val rfl (run_move (v := .nilIface) rfl) ?_
  refine lw_on rfl rfl rfl ?_
  first | refine lw_val rfl (run_neerrn (ad := ad) rfl) ?_ | refine lw_val rfl (run_nenn rfl) ?_
  first | refine lw_val rfl (run_pickF (v := .bool _) rfl rfl rfl) ?_
  refine lw_nil ?_
  refine cw_iff rfl (rfl) ?_
  refine cw_skip ?_
  refine cw_seq ?_
  refine cw_seq ?_
  refine cw_region ?_
  first | refine lw_val rfl (run_assign (v := .int .i64 _) rfl) ?_
  refine lw_nil ?_
  refine cw_block ?_
  refine cw_loop (X := Nat) [9, 34, 35, 36, 37, 38, 39, 40, 41] (fun x => [(9, .int .i64 (x : Nat))]) (fun x w => x ≤ k ∧ Mem g w [StoreC p (stU 0 (List.replicate x 2) 0 0), clientC q p (t0 + 1 : Nat) 0]) (fun x => k - x) (0) ?_ ?_ ?_
  · exact ⟨rfl, trivial⟩
  · exact ⟨Nat.zero_le _, hs.pick 1 rfl⟩
  clear hs
  rintro x ξ w hI
  obtain ⟨hx, hs⟩ := hI
  refine cw_seq ?_
  refine cw_seq ?_
  refine cw_region ?_
  first | refine lw_val rfl (run_move (v := .int .i64 _) rfl) ?_
  first | refine lw_val rfl (run_move (v := .int .i64 _) rfl) ?_
  refine lw_val rfl (run_lss rfl rfl) ?_
  refine lw_nil ?_
  refine cw_if rfl ?_ ?_
  · intro h36
    have g36 := of_decide_eq_true h36
    refine cw_skip ?_
    refine cw_seq ?_
    refine cw_block ?_
    refine cw_region ?_
    first | refine lw_val rfl (run_move (v := .pointer (some _)) rfl) ?_ | refine lw_val rfl (run_move (v := .pointer none) rfl) ?_
    refine lw_buildSlice hs rfl ((intsL [2])) Tryd.underlying22 zs3 rfl (cells_one (intsL_one _)) rfl rfl rfl ?_
    clear hs
    intro b40 w hs
    try simp only [List.set_cons_succ, List.set_cons_zero] at hs
    refine lw_call rfl en22 (script_sl (outs := [2]) (hs.pick 1 rfl) (Rd.cells 0 rfl rfl) (by simp [stU]; omega)) ?_
    clear hs
    rintro _ w ⟨rfl, hs⟩
    refine lw_nil ?_
    refine cw_region ?_
    first | refine lw_val rfl (run_move (v := .int .i64 _) rfl) ?_
    refine lw_val rfl (run_add64 rfl rfl rfl (inI (by omega) (by omega))) ?_
    first | refine lw_val rfl (run_assign (v := .int .i64 _) rfl) ?_
    refine lw_nil ?_
    exact ⟨x + 1, by omega, ⟨by omega, by have := hs.drop 1; simpa [stU, List.replicate_succ'] using this⟩, ⟨rfl, trivial⟩, by repeat (first | exact Out.mix _ _ _ | refine Out.updo rfl ?_ | refine Out.upd rfl ?_)⟩
  · intro h36
    have g36 := of_decide_eq_false h36
    have e : x = k := by omega
    subst e
    obtain ⟨lost, y, m, c2, f2, s2, i2, h1, h2, h3, h4, h5⟩ := startsU (t0 + 1) x 0 0 0 0
    refine cw_exit rfl ?_
    refine cw_seq ?_
    refine cw_region ?_
    first | refine lw_val rfl (run_move (v := .pointer (some _)) rfl) ?_ | refine lw_val rfl (run_move (v := .pointer none) rfl) ?_
    refine lw_call rfl en41 (clStart_sl (nm := nU) hE (by decide) (by omega) (hs.arr [1, 0] 2 (by decide)) (by simp [stU]) (by simp [stU]) (by simp [stU]) h1) ?_
    clear hs
    rintro _ w ⟨rfl, hs⟩
    first | refine lw_val rfl (run_move (v := .tuple _) rfl) ?_
    first | refine lw_val rfl (run_extract (v := .int .i64 _) rfl rfl) ?_
    first | refine lw_val rfl (run_extract (v := errV ad _) rfl rfl) ?_ | refine lw_val rfl (run_extract (v := .nilIface) rfl rfl) ?_
    first | refine lw_val rfl (run_assign (v := .int .i64 _) rfl) ?_
    first | refine lw_val rfl (run_assign (v := errV ad _) rfl) ?_ | refine lw_val rfl (run_assign (v := .nilIface) rfl) ?_
    refine lw_nil ?_
    refine cw_seq ?_
    refine cw_seq ?_
    refine cw_region ?_
    first | refine lw_val rfl (run_move (v := .int .i64 _) rfl) ?_
    first | refine lw_val rfl (run_move (v := .int .i64 _) rfl) ?_
    refine lw_val rfl (run_geq rfl rfl) ?_
    refine lw_nil ?_
    refine cw_if rfl ?_ ?_
    · intro h49
      have g49 := of_decide_eq_true h49
      obtain ⟨rfl, hi⟩ := h2 (by omega)
      have hi2 := hi (by omega)
      subst hi2
      rw [if_pos (by omega), Nat.zero_add] at hs
      refine cw_seq ?_
      refine cw_region ?_
      first | refine lw_val rfl (run_move (v := .bool _) rfl) ?_
      first | refine lw_val rfl (run_move (v := .bool _) rfl) ?_
      refine lw_on rfl rfl (rfl) ?_
      first | refine lw_val rfl (run_move (v := .int .i64 _) rfl) ?_
      refine lw_on rfl rfl (rfl) ?_
      refine lw_val rfl (run_eqi rfl rfl) ?_
      first | refine lw_val rfl (run_pickT (v := .bool _) rfl (rfl) rfl) ?_
      first | refine lw_val rfl (run_move (v := .bool _) rfl) ?_
      refine lw_on rfl rfl (decide_eq_true rfl) ?_
      first | refine lw_val rfl (run_move (v := errV ad _) rfl) ?_ | refine lw_val rfl (run_move (v := .nilIface) rfl) ?_
      refine lw_on rfl rfl (decide_eq_true rfl) ?_
      refine lw_call rfl en25 (is_sl hE hs (d := 111) (.inr m111) _) ?_
      clear hs
      rintro _ w ⟨rfl, hs⟩
      first | refine lw_val rfl (run_pickT (v := .bool _) rfl (decide_eq_true rfl) rfl) ?_
      first | refine lw_val rfl (run_move (v := .bool _) rfl) ?_
      refine lw_on rfl rfl (decide_eq_true rfl) ?_
      first | refine lw_val rfl (run_move (v := .pointer (some _)) rfl) ?_ | refine lw_val rfl (run_move (v := .pointer none) rfl) ?_
      refine lw_on rfl rfl (decide_eq_true rfl) ?_
      refine lw_call rfl en54 (openU_sl (by omega) (hs.pick 1 rfl)) ?_
      clear hs
      rintro _ w ⟨a61, c61, rfl, hs⟩
      refine lw_on rfl rfl (decide_eq_true rfl) ?_
      refine lw_val rfl (run_lenS Tryd.underlying22 rfl) ?_
      refine lw_on rfl rfl (decide_eq_true rfl) ?_
      first | refine lw_val rfl (run_move (v := .int .i64 _) rfl) ?_
      refine lw_on rfl rfl (decide_eq_true rfl) ?_
      refine lw_val rfl (run_eqi rfl rfl) ?_
      first | refine lw_val rfl (run_pickT (v := .bool _) rfl (decide_eq_true rfl) rfl) ?_
      first | refine lw_val rfl (run_assign (v := .bool _) rfl) ?_
      refine lw_nil ?_
      refine cw_ret ?_
      refine res1 (v := .bool _) rfl rfl ?_
      exact ⟨_, rfl, ret_b (decide_eq_true (by simp)), hs.nil⟩
    · intro h49
      have g49 := of_decide_eq_false h49
      obtain ⟨rfl, rfl⟩ := h3 (by omega)
      rw [if_neg (by omega), Nat.zero_add] at hs
      refine cw_skip ?_
      refine cw_seq ?_
      refine cw_region ?_
      first | refine lw_val rfl (run_move (v := .pointer (some _)) rfl) ?_ | refine lw_val rfl (run_move (v := .pointer none) rfl) ?_
      refine lw_call rfl en54 (openU_sl (by omega) (hs.pick 1 rfl)) ?_
      clear hs
      rintro _ w ⟨a67, c67, rfl, hs⟩
      obtain ⟨b0, o0, rfl, hcell⟩ := hs.ownCells 0 rfl (by simp [intsL])
      first | refine lw_val rfl (run_assign (v := .slice _ _ _) rfl) ?_
      refine lw_nil ?_
      refine cw_seq ?_
      refine cw_region ?_
      first | refine lw_val rfl (run_move (v := .bool _) rfl) ?_
      first | refine lw_val rfl (run_move (v := .bool _) rfl) ?_
      refine lw_on rfl rfl (rfl) ?_
      first | refine lw_val rfl (run_move (v := errV ad _) rfl) ?_ | refine lw_val rfl (run_move (v := .nilIface) rfl) ?_
      refine lw_on rfl rfl (rfl) ?_
      first | refine lw_val rfl (run_eqerrn (ad := ad) rfl) ?_ | refine lw_val rfl (run_eqnn rfl) ?_
      first | refine lw_val rfl (run_pickT (v := .bool _) rfl (rfl) rfl) ?_
      first | refine lw_val rfl (run_move (v := .bool _) rfl) ?_
      refine lw_on rfl rfl (decide_eq_true rfl) ?_
      first | refine lw_val rfl (run_move (v := .slice _ _ _) rfl) ?_
      refine lw_on rfl rfl (decide_eq_true rfl) ?_
      refine lw_val rfl (run_lenS Tryd.underlying22 rfl) ?_
      refine lw_on rfl rfl (decide_eq_true rfl) ?_
      first | refine lw_val rfl (run_move (v := .int .i64 _) rfl) ?_
      refine lw_on rfl rfl (decide_eq_true rfl) ?_
      refine lw_val rfl (run_add64 rfl rfl rfl (inI (by omega) (by omega))) ?_
      refine lw_on rfl rfl (decide_eq_true rfl) ?_
      refine lw_val rfl (run_eqi rfl rfl) ?_
      first | refine lw_val rfl (run_pickT (v := .bool _) rfl (decide_eq_true rfl) rfl) ?_
      first | refine lw_val rfl (run_move (v := .bool _) rfl) ?_
      refine lw_on rfl rfl (decide_eq_true rfl) ?_
      first | refine lw_val rfl (run_move (v := .slice _ _ _) rfl) ?_
      refine lw_on rfl rfl (decide_eq_true rfl) ?_
      first | refine lw_val rfl (run_move (v := .int .i64 _) rfl) ?_
      refine lw_on rfl rfl (decide_eq_true rfl) ?_
      refine lw_val rfl (run_indexAddr Tryd.underlying22 sz3 rfl rfl (i := x) rfl (by omega) rfl) ?_
      refine lw_on rfl rfl (decide_eq_true rfl) ?_
      refine lw_val rfl (run_load Tryd.underlying3 rfl rfl (hcell x (.int .i64 ((x + 1 : Nat) : Int)) (by simp [intsL]))) ?_
      refine lw_on rfl rfl (decide_eq_true rfl) ?_
      first | refine lw_val rfl (run_move (v := .int .i64 _) rfl) ?_
      refine lw_on rfl rfl (decide_eq_true rfl) ?_
      refine lw_val rfl (run_eqi rfl rfl) ?_
      first | refine lw_val rfl (run_pickT (v := .bool _) rfl (decide_eq_true rfl) rfl) ?_
      first | refine lw_val rfl (run_assign (v := .bool _) rfl) ?_
      refine lw_nil ?_
      refine cw_ret ?_
      refine res1 (v := .bool _) rfl rfl ?_
      exact ⟨_, rfl, ret_b (decide_eq_true (by simp)), hs.nil⟩
end Go.Proofs.YtjiigajekminaaaDoor
