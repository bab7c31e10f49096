/- StoreApart: the walk. -/
import Derived.Test.YtjiigajekminaaaDoorSA
namespace Go.Proofs.YtjiigajekminaaaDoor
set_option linter.all false
open Go.RowKit
attribute [local irreducible] errV
variable {g w : World} {L M : List HP} {ad : Nat → Addr} {p q : Nat} {st : St}

def saS1 (la : List UInt8) (n k : Nat) : St := { objs := [(nQ, partA la k)], ups := adel (upsA la n) ((k + 1 : Nat) : Int), ids := n, script := [], calls := 2 * n + 1, failed := 0 }
def saS2 (la lb : List UInt8) (n k j : Nat) : St := { saS1 la n k with ups := aput (adel (upsA la n) ((k + 1 : Nat) : Int)) ((j + 1 : Nat) : Int) ⟨nQ, [(0, partA la j), (1, lb)]⟩, calls := 2 * n + 2 }
def saS3 (la lb : List UInt8) (n k j : Nat) : St := { objs := [(nQ, partA la j ++ lb)], ups := adel (aput (adel (upsA la n) ((k + 1 : Nat) : Int)) ((j + 1 : Nat) : Int) ⟨nQ, [(0, partA la j), (1, lb)]⟩) ((j + 1 : Nat) : Int), ids := n, script := [], calls := 2 * n + 3, failed := 0 }
variable {la lb : List UInt8} {n k j : Nat}
theorem upsA_nodup : (keysOf (upsA la n)).Nodup := by rw [upsA_keys]; exact idsA_nodup n
theorem sa_c1 (hk : k < n) : (saSt la n).run (St.complete1 ((k + 1 : Nat) : Int) ((1 : Nat) : Int)) = (0, saS1 la n k) := by
  rw [complete_ok (u := ⟨nQ, [(0, partA la k)]⟩) rfl (upsA_get la hk) (by decide) (haveAll1 _), outK1]
  rfl
theorem sa_get1 (hj : j < n) (hjk : j ≠ k) : aget (saS1 la n k).ups ((j + 1 : Nat) : Int) = some ⟨nQ, [(0, partA la j)]⟩ := by
  show aget (adel (upsA la n) _) _ = _
  rw [aget_del_other _ (by omega), upsA_get la hj]
theorem sa_p (hj : j < n) (hjk : j ≠ k) : (saS1 la n k).run (St.part1 ((j + 1 : Nat) : Int) 1 lb) = (0, saS2 la lb n k j) := by
  rw [part_ok rfl (sa_get1 hj hjk) (by decide)]
  rfl
theorem sa_get2 : aget (saS2 la lb n k j).ups ((j + 1 : Nat) : Int) = some ⟨nQ, [(0, partA la j), (1, lb)]⟩ := aget_put_same _ _ _
theorem sa_c2 : (saS2 la lb n k j).run (St.complete1 ((j + 1 : Nat) : Int) ((2 : Nat) : Int)) = (0, saS3 la lb n k j) := by
  rw [complete_ok rfl sa_get2 (by decide) (haveAll2 _ _), outK2]
  show (0, ({ objs := aput [(nQ, partA la k)] nQ (partA la j ++ lb), ups := _, ids := _, script := _, calls := _, failed := _ } : St)) = _
  simp only [aput, if_true]
  rfl
theorem partA_len (j : Nat) : (partA la j).length = la.length + 1 := by simp [partA]
theorem ups_small (ha : la.length ≤ 50) (hb : lb.length ≤ 50) {i : Int} {u : Up} (h : (i, u) ∈ upsA la n ∨ u = ⟨nQ, [(0, partA la j), (1, lb)]⟩) : ∀ k b, (k, b) ∈ u.parts → b.length ≤ 4194304 := fun k b hm => by
  rcases h with h | rfl
  · exact (saSt_small ha n).2 i u h k b hm
  · simp only [List.mem_cons, Prod.mk.injEq, List.not_mem_nil, or_false] at hm
    rcases hm with hm | hm <;> rw [hm.2]
    · rw [partA_len]; omega
    · omega
theorem saS1_small (ha : la.length ≤ 50) : (saS1 la n k).small := ⟨fun m b hm => by simp only [saS1, List.mem_cons, Prod.mk.injEq, List.not_mem_nil, or_false] at hm; rw [hm.2, partA_len]; omega, fun i u hm => (saSt_small ha n).2 i u (adel_mem hm)⟩
theorem saS2_small (ha : la.length ≤ 50) (hb : lb.length ≤ 50) : (saS2 la lb n k j).small := ⟨(saS1_small (k := k) (n := n) ha).1, fun i u hm => by
  rcases aput_mem hm with hm | hm
  · simp only [Prod.mk.injEq] at hm; exact ups_small (n := n) ha hb (i := i) (.inr hm.2)
  · exact ups_small (j := j) ha hb (.inl (adel_mem hm))⟩
theorem saS3_small (ha : la.length ≤ 50) (hb : lb.length ≤ 50) : (saS3 la lb n k j).small := ⟨fun m b hm => by simp only [saS3, List.mem_cons, Prod.mk.injEq, List.not_mem_nil, or_false] at hm; rw [hm.2, List.length_append, partA_len]; omega, fun i u hm => (saS2_small (k := k) (j := j) (n := n) ha hb).2 i u (adel_mem hm)⟩
def leftA (x k j : Nat) : List Int := ((List.range x).filter fun i => decide (i ≠ k) && decide (i ≠ j)).map fun i => ((i + 1 : Nat) : Int)
theorem leftA_succ (x k j : Nat) : leftA (x + 1) k j = leftA x k j ++ (if x ≠ k ∧ x ≠ j then [((x + 1 : Nat) : Int)] else []) := by
  unfold leftA
  rw [List.range_succ, List.filter_append, List.map_append]
  by_cases h1 : x = k <;> by_cases h2 : x = j <;> simp [h1, h2]
theorem leftA_len (x k j : Nat) : (leftA x k j).length ≤ x := by unfold leftA; rw [List.length_map]; exact Nat.le_trans (List.length_filter_le _ _) (by simp)
theorem sa_keys : keysOf (saS3 la lb n k j).ups = leftA n k j := by
  have hnd := upsA_nodup (la := la) (n := n)
  have h1 : keysOf (adel (upsA la n) ((k + 1 : Nat) : Int)) = (idsA n).filter fun x => decide (x ≠ ((k + 1 : Nat) : Int)) := by rw [keys_del hnd, upsA_keys]
  have hnd1 : (keysOf (adel (upsA la n) ((k + 1 : Nat) : Int))).Nodup := by rw [h1]; exact (idsA_nodup n).filter _
  show keysOf (adel (aput _ _ _) _) = _
  have hnd2 : (keysOf (aput (adel (upsA la n) ((k + 1 : Nat) : Int)) ((j + 1 : Nat) : Int) (⟨nQ, [(0, partA la j), (1, lb)]⟩ : Up))).Nodup := by
    rw [keys_put]
    split
    · exact hnd1
    · rename_i hn
      rw [List.nodup_append]
      refine ⟨hnd1, by simp, fun a ha c hc e => ?_⟩
      simp only [List.mem_cons, List.not_mem_nil, or_false] at hc
      subst hc
      exact hn (e ▸ ha)
  rw [keys_del hnd2, keys_put]
  have h2 : ((idsA n).filter fun x => decide (x ≠ ((k + 1 : Nat) : Int))).filter (fun x => decide (x ≠ ((j + 1 : Nat) : Int))) = leftA n k j := by
    unfold idsA leftA
    rw [List.filter_filter, List.filter_map]
    congr 1
    refine List.filter_congr fun i _ => ?_
    simp only [Function.comp]
    by_cases a : i = k <;> by_cases b : i = j <;> simp [a, b] <;> omega
  split
  · rw [h1, h2]
  · rw [List.filter_append, h1, h2]; simp
theorem leftA_sorted : sortI (leftA n k j) = leftA n k j := by
  unfold sortI
  refine List.mergeSort_of_pairwise ?_
  unfold leftA
  rw [List.pairwise_map]
  exact (List.pairwise_lt_range.filter _).imp fun h => by simp only [decide_eq_true_eq]; omega
theorem leftA_in {x : Int} (h : x ∈ leftA n k j) (hn : n ≤ 1000) : InI64 x := by
  unfold leftA at h
  simp only [List.mem_map, List.mem_filter, List.mem_range] at h
  obtain ⟨i, ⟨hi, _⟩, rfl⟩ := h
  exact inI (by omega) (by omega)
set_option maxHeartbeats 4000000 in
set_option maxRecDepth 10000 in
theorem storeApart_sl (hA : ErrA ad g) (hs : Mem g w []) {a b : Option Addr} {n c m d : Nat} {la lb : List UInt8} {nn at_ : Int} (ha : Came g (.slice a n c) (bytesL la)) (hb : Came g (.slice b m d) (bytesL lb)) (hn : n = la.length) (hm : m = lb.length) :
    Calls Tryd.prog 14 #[.int .i64 nn, .int .i64 at_, .slice a n c, .slice b m d] w (Ret fun v w' => v = .bool true ∧ Mem g w' []) := by
  subst hn hm
  have hE := hA.core
  refine calls_cw Tryd.func14 rfl rfl ?_
  skip
  refine cw_seq ?_
  refine cw_region ?_
  first | refine lw_val rfl (run_assign (v := .bool _) rfl) ?_
  refine lw_nil ?_
  refine cw_seq ?_
  refine cw_region ?_
  refine lw_call rfl en20 (first11_sl hA hs) ?_
  clear hs
  rintro _ w ⟨rfl, hs⟩
  first | refine lw_val rfl (run_assign (v := .bool _) rfl) ?_
  refine lw_nil ?_
  refine cw_seq ?_
  refine cw_seq ?_
  refine cw_region ?_
  first | refine lw_val rfl (run_move (v := .bool _) rfl) ?_
  refine lw_val rfl (run_not rfl) ?_
  refine lw_nil ?_
  refine cw_iff rfl (not_f (rfl)) ?_
  refine cw_skip ?_
  refine cw_seq ?_
  refine cw_region ?_
  first | refine lw_val rfl (run_move (v := .int .i64 _) rfl) ?_
  refine lw_call rfl en34 (number_sl hs _ _ (by decide)) ?_
  clear hs
  rintro _ w ⟨r0, hr0, rfl, hs⟩
  refine lw_val rfl (run_add64 rfl rfl (c := ((r0 + 2 : Nat) : Int)) (by omega) (inI (by omega) (by omega))) ?_
  first | refine lw_val rfl (run_assign (v := .int .i64 _) rfl) ?_
  refine lw_nil ?_
  refine cw_seq ?_
  refine cw_seq ?_
  refine cw_region ?_
  first | refine lw_val rfl (run_move (v := .slice _ _ _) rfl) ?_
  refine lw_val rfl (run_lenS Tryd.underlying27 rfl) ?_
  refine lw_val rfl (run_gtr rfl rfl) ?_
  first | refine lw_val rfl (run_move (v := .bool _) rfl) ?_
  refine lw_split (t := _) (d := 33) rfl ?_ ?_
  · intro h32
    have g32 := of_decide_eq_true h32
    refine lw_off rfl rfl rfl h32 ?_
    refine lw_off rfl rfl rfl h32 ?_
    refine lw_off rfl rfl rfl h32 ?_
    first | refine lw_val rfl (run_pickT (v := .bool _) rfl h32 rfl) ?_
    first | refine lw_val rfl (run_move (v := .bool _) rfl) ?_
    refine lw_off rfl rfl rfl rfl ?_
    refine lw_off rfl rfl rfl rfl ?_
    first | refine lw_val rfl (run_pickT (v := .bool _) rfl rfl rfl) ?_
    refine lw_nil ?_
    refine cw_ift rfl rfl ?_
    refine cw_seq ?_
    refine cw_region ?_
    first | refine lw_val rfl (run_move (v := .bool _) rfl) ?_
    first | refine lw_val rfl (run_assign (v := .bool _) rfl) ?_
    refine lw_nil ?_
    refine cw_ret ?_
    refine res1 (v := .bool _) rfl rfl ?_
    exact ⟨_, rfl, rfl, hs.nil⟩
  · intro h32
    have g32 := of_decide_eq_false h32
    refine lw_on rfl rfl h32 ?_
    first | refine lw_val rfl (run_move (v := .slice _ _ _) rfl) ?_
    refine lw_on rfl rfl h32 ?_
    refine lw_val rfl (run_lenS Tryd.underlying27 rfl) ?_
    refine lw_on rfl rfl h32 ?_
    refine lw_val rfl (run_gtr rfl rfl) ?_
    first | refine lw_val rfl (run_pickF (v := .bool _) rfl h32 rfl) ?_
    first | refine lw_val rfl (run_move (v := .bool _) rfl) ?_
    refine lw_split (t := _) (d := 38) rfl ?_ ?_
    · intro h36
      have g36 := of_decide_eq_true h36
      refine lw_off rfl rfl rfl h36 ?_
      refine lw_off rfl rfl rfl h36 ?_
      first | refine lw_val rfl (run_pickT (v := .bool _) rfl h36 rfl) ?_
      refine lw_nil ?_
      refine cw_ift rfl rfl ?_
      refine cw_seq ?_
      refine cw_region ?_
      first | refine lw_val rfl (run_move (v := .bool _) rfl) ?_
      first | refine lw_val rfl (run_assign (v := .bool _) rfl) ?_
      refine lw_nil ?_
      refine cw_ret ?_
      refine res1 (v := .bool _) rfl rfl ?_
      exact ⟨_, rfl, rfl, hs.nil⟩
    · intro h36
      have g36 := of_decide_eq_false h36
      refine lw_on rfl rfl h36 ?_
      first | refine lw_val rfl (run_move (v := .bool _) rfl) ?_
      refine lw_on rfl rfl h36 ?_
      refine lw_val rfl (run_not rfl) ?_
      first | refine lw_val rfl (run_pickF (v := .bool _) rfl h36 rfl) ?_
      refine lw_nil ?_
      refine cw_iff rfl (not_f (rfl)) ?_
      refine cw_skip ?_
      refine cw_seq ?_
      refine cw_region ?_
      refine lw_call rfl en21 (new_sl hs) ?_
      clear hs
      rintro _ w ⟨p, rfl, hs⟩
      first | refine lw_val rfl (run_assign (v := .pointer (some _)) rfl) ?_ | refine lw_val rfl (run_assign (v := .pointer none) rfl) ?_
      refine lw_nil ?_
      refine cw_seq ?_
      refine cw_seq ?_
      refine cw_region ?_
      first | refine lw_val rfl (run_move (v := .pointer (some _)) rfl) ?_ | refine lw_val rfl (run_move (v := .pointer none) rfl) ?_
      refine lw_val rfl (run_eqpn Tryd.underlying24 rfl rfl) ?_
      refine lw_nil ?_
      refine cw_iff rfl rfl ?_
      refine cw_skip ?_
      refine cw_seq ?_
      refine cw_region ?_
      first | refine lw_val rfl (run_assign (v := .slice _ _ _) rfl) ?_
      refine lw_nil ?_
      refine cw_seq ?_
      refine cw_seq ?_
      refine cw_region ?_
      first | refine lw_val rfl (run_assign (v := .int .i64 _) rfl) ?_
      refine lw_nil ?_
      refine cw_block ?_
      refine cw_loop (X := Nat × Option Addr × Nat) [8, 11, 12, 13, 14, 46, 47, 48, 49, 50, 51, 52, 53, 54, 55, 56, 57, 58, 59, 60, 61, 62, 63, 64, 65, 66, 67, 68, 69, 70, 71, 72, 73, 74, 75, 76, 77, 78, 79, 80, 81, 82, 83, 84, 85, 86, 87, 88] (fun x => [(11, .slice x.2.1 (idsA x.1).length x.2.2), (12, .int .i64 (x.1 : Nat))]) (fun x w => x.1 ≤ r0 + 2 ∧ Mem g w [own (.slice x.2.1 (idsA x.1).length x.2.2) (intsL (idsA x.1)), StoreC p (saSt la x.1)]) (fun x => r0 + 2 - x.1) ((0, none, 0)) ?_ ?_ ?_
      · exact ⟨rfl, rfl, trivial⟩
      · exact ⟨Nat.zero_le _, hs.addE (own_nil _)⟩
      clear hs
      rintro x ξ w hI
      obtain ⟨i, ra, rc⟩ := x
      obtain ⟨hi, hs⟩ := hI
      simp only at hi hs
      have hil := idsA_len i
      show cw _ _ _ _ _ _ (updL (mix _ ξ _) [(11, .slice ra (idsA i).length rc), (12, .int .i64 (i : Nat))]) w
      refine cw_seq ?_
      refine cw_seq ?_
      refine cw_region ?_
      first | refine lw_val rfl (run_move (v := .int .i64 _) rfl) ?_
      first | refine lw_val rfl (run_move (v := .int .i64 _) rfl) ?_
      refine lw_val rfl (run_lss rfl rfl) ?_
      refine lw_nil ?_
      refine cw_if rfl ?_ ?_
      · intro h48
        have g48 := of_decide_eq_true h48
        refine cw_skip ?_
        refine cw_seq ?_
        refine cw_block ?_
        refine cw_seq ?_
        refine cw_region ?_
        first | refine lw_val rfl (run_move (v := .pointer (some _)) rfl) ?_ | refine lw_val rfl (run_move (v := .pointer none) rfl) ?_
        refine lw_call rfl en55 (start_sl hE (hs.pick 1 rfl) (by simp only [saSt]; omega) (by simp only [saSt]; omega) (by simp only [saSt]; omega) (sa_start la i)) ?_
        clear hs
        rintro _ w ⟨rfl, hs⟩
        first | refine lw_val rfl (run_move (v := .tuple _) rfl) ?_
        first | refine lw_val rfl (run_extract (v := .int .i64 _) rfl rfl) ?_
        first | refine lw_val rfl (run_extract (v := errV ad _) rfl rfl) ?_ | refine lw_val rfl (run_extract (v := .nilIface) rfl rfl) ?_
        first | refine lw_val rfl (run_assign (v := .int .i64 _) rfl) ?_
        first | refine lw_val rfl (run_assign (v := errV ad _) rfl) ?_ | refine lw_val rfl (run_assign (v := .nilIface) rfl) ?_
        refine lw_nil ?_
        refine cw_seq ?_
        refine cw_seq ?_
        refine cw_region ?_
        first | refine lw_val rfl (run_move (v := errV ad _) rfl) ?_ | refine lw_val rfl (run_move (v := .nilIface) rfl) ?_
        first | refine lw_val rfl (run_neerrn (ad := ad) rfl) ?_ | refine lw_val rfl (run_nenn rfl) ?_
        first | refine lw_val rfl (run_move (v := .bool _) rfl) ?_
        refine lw_on rfl rfl (not_f (decide_eq_true rfl)) ?_
        first | refine lw_val rfl (run_move (v := .slice _ _ _) rfl) ?_
        refine lw_on rfl rfl (not_f (decide_eq_true rfl)) ?_
        refine lw_val rfl (run_lenS Tryd.underlying22 rfl) ?_
        refine lw_on rfl rfl (not_f (decide_eq_true rfl)) ?_
        refine lw_val rfl (run_gtr rfl rfl) ?_
        refine lw_on rfl rfl (not_f (decide_eq_true rfl)) ?_
        first | refine lw_val rfl (run_move (v := .bool _) rfl) ?_
        refine lw_split (t := _) (d := 62) rfl ?_ ?_
        · intro h61
          have g61 := of_decide_eq_true h61
          obtain ⟨b1, o1, rfl, _⟩ := hs.ownCells 1 rfl (by rw [intsL_len]; omega)
          refine lw_on rfl rfl h61 ?_
          first | refine lw_val rfl (run_move (v := .int .i64 _) rfl) ?_
          refine lw_on rfl rfl h61 ?_
          first | refine lw_val rfl (run_move (v := .slice _ _ _) rfl) ?_
          refine lw_on rfl rfl h61 ?_
          first | refine lw_val rfl (run_move (v := .slice _ _ _) rfl) ?_
          refine lw_on rfl rfl h61 ?_
          refine lw_val rfl (run_lenS Tryd.underlying22 rfl) ?_
          refine lw_on rfl rfl h61 ?_
          refine lw_val rfl (run_sub64 rfl rfl rfl (inI (by omega) (by omega))) ?_
          refine lw_on rfl rfl h61 ?_
          refine lw_val rfl (run_indexAddr Tryd.underlying22 sz3 rfl rfl (i := i - 1) (by omega) (by omega) rfl) ?_
          refine lw_on rfl rfl h61 ?_
          refine lw_val rfl (run_load Tryd.underlying3 rfl rfl (hs.ownAt 1 rfl (idsA_at (show i - 1 < i by omega)))) ?_
          refine lw_on rfl rfl h61 ?_
          refine lw_val rfl (run_leq rfl rfl) ?_
          refine lw_on rfl rfl (not_f (decide_eq_true rfl)) ?_
          first | refine lw_val rfl (run_pickT (v := .bool _) rfl h61 rfl) ?_
          first | refine lw_val rfl (run_pickF (v := .bool _) rfl (not_f (decide_eq_true rfl)) rfl) ?_
          first | refine lw_val rfl (run_move (v := .bool _) rfl) ?_
          refine lw_on rfl rfl (decide_eq_false (by omega)) ?_
          first | refine lw_val rfl (run_move (v := .pointer (some _)) rfl) ?_ | refine lw_val rfl (run_move (v := .pointer none) rfl) ?_
          refine lw_on rfl rfl (decide_eq_false (by omega)) ?_
          first | refine lw_val rfl (run_move (v := .int .i64 _) rfl) ?_
          refine lw_on rfl rfl (decide_eq_false (by omega)) ?_
          first | refine lw_val rfl (run_move (v := .slice _ _ _) rfl) ?_
          refine lw_on rfl rfl (decide_eq_false (by omega)) ?_
          refine lw_call rfl en57 (bcopy_sl hs (ha.rd _) rfl (by omega)) ?_
          clear hs
          rintro _ w ⟨a77, c77, rfl, hs⟩
          refine lw_on rfl rfl (decide_eq_false (by omega)) ?_
          first | refine lw_val rfl (run_move (v := .int .i64 _) rfl) ?_
          refine lw_on rfl rfl (decide_eq_false (by omega)) ?_
          refine lw_val rfl (run_convIn Tryd.underlying3 Tryd.underlying5 rfl (c := (((UInt8.ofNat i).toNat : Nat) : Int)) (wrap_u8 (by omega))) ?_
          refine lw_on rfl rfl (decide_eq_false (by omega)) ?_
          refine lw_buildSlice hs rfl ((bytesL [UInt8.ofNat i])) Tryd.underlying27 zs5 rfl (cells_one (bytesL_one _)) rfl rfl rfl ?_
          clear hs
          intro b80 w hs
          try simp only [List.set_cons_succ, List.set_cons_zero] at hs
          refine lw_on rfl rfl (decide_eq_false (by omega)) ?_
          refine lw_append hs rfl 1 rfl Tryd.underlying27 in5 rfl rfl rfl (src_of_seq (P := Tryd.prog) Tryd.underlying27 ((Rd.cells (n := 1) (cs := bytesL [UInt8.ofNat i]) 0 rfl rfl).seq hs) (bytesL_one [UInt8.ofNat i])) (by simp only [bytesL_len, List.length_cons, List.length_nil]; omega) (by simp only [bytesL_len, List.length_cons, List.length_nil]; omega) ?_
          clear hs
          intro a81 c81 w hs
          simp only [List.set_cons_succ, List.set_cons_zero] at hs
          rw [show bytesL la ++ bytesL [UInt8.ofNat i] = bytesL (partA la i) from (bytesL_app _ _).symm] at hs
          refine lw_on rfl rfl (decide_eq_false (by omega)) ?_
          refine lw_call rfl en56 (part_sl hE (hs.pick 2 rfl) (by simp only [saSt1]; omega) (by simp only [saSt1]; omega) (b := partA la i) (Rd.own 1 rfl) (by rw [partA_len]; omega) (sa_part la i)) ?_
          clear hs
          rintro _ w ⟨rfl, hs⟩
          refine lw_on rfl rfl (decide_eq_false (by omega)) ?_
          first | refine lw_val rfl (run_neerrn (ad := ad) rfl) ?_ | refine lw_val rfl (run_nenn rfl) ?_
          first | refine lw_val rfl (run_pickF (v := .bool _) rfl (decide_eq_false (by omega)) rfl) ?_
          refine lw_nil ?_
          refine cw_iff rfl (not_f (decide_eq_true rfl)) ?_
          refine cw_skip ?_
          refine cw_region ?_
          first | refine lw_val rfl (run_move (v := .slice _ _ _) rfl) ?_
          first | refine lw_val rfl (run_move (v := .int .i64 _) rfl) ?_
          refine lw_buildSlice hs rfl ((intsL [((i + 1 : Nat) : Int)])) Tryd.underlying22 zs3 rfl (cells_one (intsL_one _)) rfl rfl rfl ?_
          clear hs
          intro b87 w hs
          try simp only [List.set_cons_succ, List.set_cons_zero] at hs
          refine lw_append hs rfl 4 rfl Tryd.underlying22 in3 rfl rfl rfl (src_of_seq (P := Tryd.prog) Tryd.underlying22 ((Rd.cells (n := 1) (cs := intsL [((i + 1 : Nat) : Int)]) 0 rfl rfl).seq hs) (intsL_one [((i + 1 : Nat) : Int)])) (by simp only [intsL_len, List.length_cons, List.length_nil]; omega) (by simp only [intsL_len, List.length_cons, List.length_nil]; omega) ?_
          clear hs
          intro a88 c88 w hs
          simp only [List.set_cons_succ, List.set_cons_zero] at hs
          first | refine lw_val rfl (run_assign (v := .slice _ _ _) rfl) ?_
          refine lw_nil ?_
          refine cw_region ?_
          first | refine lw_val rfl (run_move (v := .int .i64 _) rfl) ?_
          refine lw_val rfl (run_add64 rfl rfl rfl (inI (by omega) (by omega))) ?_
          first | refine lw_val rfl (run_assign (v := .int .i64 _) rfl) ?_
          refine lw_nil ?_
          have h2 : Mem g w [own (.slice a88 ((intsL (idsA i)).length + (intsL [((i + 1 : Nat) : Int)]).length) c88) (intsL (idsA i) ++ intsL [((i + 1 : Nat) : Int)]), StoreC p (saSt la (i + 1))] := hs.arr [4, 1] 5 (by decide)
          exact ⟨(i + 1, a88, c88), by simp only; omega, ⟨by simp only; omega, by simpa only [idsA_succ, intsL_app, List.length_append, intsL_len] using h2⟩, ⟨show Value.slice a88 ((intsL (idsA i)).length + (intsL [((i + 1 : Nat) : Int)]).length) c88 = Value.slice a88 (idsA (i + 1)).length c88 from by simp only [idsA_succ, List.length_append, intsL_len], rfl, trivial⟩, by repeat (first | exact Out.mix _ _ _ | refine Out.updo rfl ?_ | refine Out.upd rfl ?_ | refine Out.mixIn rfl ?_)⟩
        · intro h61
          have g61 := of_decide_eq_false h61
          refine lw_off rfl rfl rfl h61 ?_
          refine lw_off rfl rfl rfl h61 ?_
          refine lw_off rfl rfl rfl h61 ?_
          refine lw_off rfl rfl rfl h61 ?_
          refine lw_off rfl rfl rfl h61 ?_
          refine lw_off rfl rfl rfl h61 ?_
          refine lw_off rfl rfl rfl h61 ?_
          refine lw_off rfl rfl rfl h61 ?_
          refine lw_on rfl rfl (not_f (decide_eq_true rfl)) ?_
          first | refine lw_val rfl (run_pickF (v := .bool _) rfl h61 rfl) ?_
          first | refine lw_val rfl (run_pickF (v := .bool _) rfl (not_f (decide_eq_true rfl)) rfl) ?_
          first | refine lw_val rfl (run_move (v := .bool _) rfl) ?_
          refine lw_on rfl rfl rfl ?_
          first | refine lw_val rfl (run_move (v := .pointer (some _)) rfl) ?_ | refine lw_val rfl (run_move (v := .pointer none) rfl) ?_
          refine lw_on rfl rfl rfl ?_
          first | refine lw_val rfl (run_move (v := .int .i64 _) rfl) ?_
          refine lw_on rfl rfl rfl ?_
          first | refine lw_val rfl (run_move (v := .slice _ _ _) rfl) ?_
          refine lw_on rfl rfl rfl ?_
          refine lw_call rfl en57 (bcopy_sl hs (ha.rd _) rfl (by omega)) ?_
          clear hs
          rintro _ w ⟨a77, c77, rfl, hs⟩
          refine lw_on rfl rfl rfl ?_
          first | refine lw_val rfl (run_move (v := .int .i64 _) rfl) ?_
          refine lw_on rfl rfl rfl ?_
          refine lw_val rfl (run_convIn Tryd.underlying3 Tryd.underlying5 rfl (c := (((UInt8.ofNat i).toNat : Nat) : Int)) (wrap_u8 (by omega))) ?_
          refine lw_on rfl rfl rfl ?_
          refine lw_buildSlice hs rfl ((bytesL [UInt8.ofNat i])) Tryd.underlying27 zs5 rfl (cells_one (bytesL_one _)) rfl rfl rfl ?_
          clear hs
          intro b80 w hs
          try simp only [List.set_cons_succ, List.set_cons_zero] at hs
          refine lw_on rfl rfl rfl ?_
          refine lw_append hs rfl 1 rfl Tryd.underlying27 in5 rfl rfl rfl (src_of_seq (P := Tryd.prog) Tryd.underlying27 ((Rd.cells (n := 1) (cs := bytesL [UInt8.ofNat i]) 0 rfl rfl).seq hs) (bytesL_one [UInt8.ofNat i])) (by simp only [bytesL_len, List.length_cons, List.length_nil]; omega) (by simp only [bytesL_len, List.length_cons, List.length_nil]; omega) ?_
          clear hs
          intro a81 c81 w hs
          simp only [List.set_cons_succ, List.set_cons_zero] at hs
          rw [show bytesL la ++ bytesL [UInt8.ofNat i] = bytesL (partA la i) from (bytesL_app _ _).symm] at hs
          refine lw_on rfl rfl rfl ?_
          refine lw_call rfl en56 (part_sl hE (hs.pick 2 rfl) (by simp only [saSt1]; omega) (by simp only [saSt1]; omega) (b := partA la i) (Rd.own 1 rfl) (by rw [partA_len]; omega) (sa_part la i)) ?_
          clear hs
          rintro _ w ⟨rfl, hs⟩
          refine lw_on rfl rfl rfl ?_
          first | refine lw_val rfl (run_neerrn (ad := ad) rfl) ?_ | refine lw_val rfl (run_nenn rfl) ?_
          first | refine lw_val rfl (run_pickF (v := .bool _) rfl rfl rfl) ?_
          refine lw_nil ?_
          refine cw_iff rfl (not_f (decide_eq_true rfl)) ?_
          refine cw_skip ?_
          refine cw_region ?_
          first | refine lw_val rfl (run_move (v := .slice _ _ _) rfl) ?_
          first | refine lw_val rfl (run_move (v := .int .i64 _) rfl) ?_
          refine lw_buildSlice hs rfl ((intsL [((i + 1 : Nat) : Int)])) Tryd.underlying22 zs3 rfl (cells_one (intsL_one _)) rfl rfl rfl ?_
          clear hs
          intro b87 w hs
          try simp only [List.set_cons_succ, List.set_cons_zero] at hs
          refine lw_append hs rfl 4 rfl Tryd.underlying22 in3 rfl rfl rfl (src_of_seq (P := Tryd.prog) Tryd.underlying22 ((Rd.cells (n := 1) (cs := intsL [((i + 1 : Nat) : Int)]) 0 rfl rfl).seq hs) (intsL_one [((i + 1 : Nat) : Int)])) (by simp only [intsL_len, List.length_cons, List.length_nil]; omega) (by simp only [intsL_len, List.length_cons, List.length_nil]; omega) ?_
          clear hs
          intro a88 c88 w hs
          simp only [List.set_cons_succ, List.set_cons_zero] at hs
          first | refine lw_val rfl (run_assign (v := .slice _ _ _) rfl) ?_
          refine lw_nil ?_
          refine cw_region ?_
          first | refine lw_val rfl (run_move (v := .int .i64 _) rfl) ?_
          refine lw_val rfl (run_add64 rfl rfl rfl (inI (by omega) (by omega))) ?_
          first | refine lw_val rfl (run_assign (v := .int .i64 _) rfl) ?_
          refine lw_nil ?_
          have h2 : Mem g w [own (.slice a88 ((intsL (idsA i)).length + (intsL [((i + 1 : Nat) : Int)]).length) c88) (intsL (idsA i) ++ intsL [((i + 1 : Nat) : Int)]), StoreC p (saSt la (i + 1))] := hs.arr [4, 1] 5 (by decide)
          exact ⟨(i + 1, a88, c88), by simp only; omega, ⟨by simp only; omega, by simpa only [idsA_succ, intsL_app, List.length_append, intsL_len] using h2⟩, ⟨show Value.slice a88 ((intsL (idsA i)).length + (intsL [((i + 1 : Nat) : Int)]).length) c88 = Value.slice a88 (idsA (i + 1)).length c88 from by simp only [idsA_succ, List.length_append, intsL_len], rfl, trivial⟩, by repeat (first | exact Out.mix _ _ _ | refine Out.updo rfl ?_ | refine Out.upd rfl ?_ | refine Out.mixIn rfl ?_)⟩
      · intro h48
        have g48 := of_decide_eq_false h48
        obtain rfl : i = r0 + 2 := by omega
        refine cw_exit rfl ?_
        refine cw_seq ?_
        refine cw_region ?_
        first | refine lw_val rfl (run_move (v := .int .i64 _) rfl) ?_
        first | refine lw_val rfl (run_move (v := .int .i64 _) rfl) ?_
        refine lw_call rfl en34 (number_sl hs _ _ (by omega)) ?_
        clear hs
        rintro _ w ⟨k, hk, rfl, hs⟩
        first | refine lw_val rfl (run_assign (v := .int .i64 _) rfl) ?_
        refine lw_nil ?_
        refine cw_seq ?_
        refine cw_seq ?_
        obtain ⟨b1, o1, rfl, _⟩ := hs.ownCells 0 rfl (by rw [intsL_len]; omega)
        have hkn : k < r0 + 2 := by omega
        obtain ⟨j, hj⟩ : ∃ j, (k + 1) % (r0 + 2) = j := ⟨_, rfl⟩
        have hjn : j < r0 + 2 := hj ▸ Nat.mod_lt _ (by omega)
        have hjk : j ≠ k := by intro e; by_cases h : k + 1 < r0 + 2; (rw [Nat.mod_eq_of_lt h] at hj; omega); (rw [show k + 1 = r0 + 2 by omega, Nat.mod_self] at hj; omega)
        refine cw_region ?_
        first | refine lw_val rfl (run_move (v := .pointer (some _)) rfl) ?_ | refine lw_val rfl (run_move (v := .pointer none) rfl) ?_
        first | refine lw_val rfl (run_move (v := .slice _ _ _) rfl) ?_
        first | refine lw_val rfl (run_move (v := .int .i64 _) rfl) ?_
        refine lw_val rfl (run_indexAddr Tryd.underlying22 sz3 rfl rfl rfl (by omega) rfl) ?_
        refine lw_val rfl (run_load Tryd.underlying3 rfl rfl (hs.ownAt 0 rfl (idsA_at hkn))) ?_
        refine lw_call rfl en58 (complete_sl hE (saSt_small (by omega) _) (hs.pick 1 rfl) (by simp only [saSt]; omega) (by simp only [saSt]; omega) (sa_c1 hkn)) ?_
        clear hs
        rintro _ w ⟨rfl, hs⟩
        first | refine lw_val rfl (run_neerrn (ad := ad) rfl) ?_ | refine lw_val rfl (run_nenn rfl) ?_
        refine lw_nil ?_
        refine cw_iff rfl (not_f (decide_eq_true rfl)) ?_
        refine cw_skip ?_
        refine cw_seq ?_
        refine cw_region ?_
        first | refine lw_val rfl (run_move (v := .pointer (some _)) rfl) ?_ | refine lw_val rfl (run_move (v := .pointer none) rfl) ?_
        refine lw_call rfl en24 (bytes_sl hs (saS1_small (by omega)) nQ (o := some (partA la k)) (by simp [saS1, aget])) ?_
        clear hs
        rintro _ w ⟨a101, c101, rfl, hs⟩
        first | refine lw_val rfl (run_move (v := .tuple _) rfl) ?_
        first | refine lw_val rfl (run_extract (v := .slice _ _ _) rfl rfl) ?_
        first | refine lw_val rfl (run_extract (v := .bool _) rfl rfl) ?_
        first | refine lw_val rfl (run_assign (v := .slice _ _ _) rfl) ?_
        first | refine lw_val rfl (run_assign (v := .bool _) rfl) ?_
        refine lw_nil ?_
        refine cw_seq ?_
        refine cw_region ?_
        first | refine lw_val rfl (run_move (v := .int .i64 _) rfl) ?_
        refine lw_val rfl (run_add64 rfl rfl rfl (inI (by omega) (by omega))) ?_
        first | refine lw_val rfl (run_move (v := .int .i64 _) rfl) ?_
        refine lw_val rfl (run_rem64 rfl rfl (c := ((j : Nat) : Int)) (by omega) (by omega) (by rw [← hj]; exact (Int.natCast_emod (k + 1) (r0 + 2)).symm)) ?_
        first | refine lw_val rfl (run_assign (v := .int .i64 _) rfl) ?_
        refine lw_nil ?_
        refine cw_seq ?_
        refine cw_seq ?_
        refine cw_region ?_
        first | refine lw_val rfl (run_move (v := .bool _) rfl) ?_
        refine lw_val rfl (run_not rfl) ?_
        first | refine lw_val rfl (run_move (v := .bool _) rfl) ?_
        refine lw_on rfl rfl (not_f (rfl)) ?_
        first | refine lw_val rfl (run_move (v := .slice _ _ _) rfl) ?_
        refine lw_on rfl rfl (not_f (rfl)) ?_
        first | refine lw_val rfl (run_move (v := .slice _ _ _) rfl) ?_
        refine lw_on rfl rfl (not_f (rfl)) ?_
        refine lw_call rfl en57 (bcopy_sl hs (ha.rd _) rfl (by omega)) ?_
        clear hs
        rintro _ w ⟨a113, c113, rfl, hs⟩
        refine lw_on rfl rfl (not_f (rfl)) ?_
        first | refine lw_val rfl (run_move (v := .int .i64 _) rfl) ?_
        refine lw_on rfl rfl (not_f (rfl)) ?_
        refine lw_val rfl (run_convIn Tryd.underlying3 Tryd.underlying5 rfl (c := (((UInt8.ofNat k).toNat : Nat) : Int)) (wrap_u8 (by omega))) ?_
        refine lw_on rfl rfl (not_f (rfl)) ?_
        refine lw_buildSlice hs rfl ((bytesL [UInt8.ofNat k])) Tryd.underlying27 zs5 rfl (cells_one (bytesL_one _)) rfl rfl rfl ?_
        clear hs
        intro b116 w hs
        try simp only [List.set_cons_succ, List.set_cons_zero] at hs
        refine lw_on rfl rfl (not_f (rfl)) ?_
        refine lw_append hs rfl 1 rfl Tryd.underlying27 in5 rfl rfl rfl (src_of_seq (P := Tryd.prog) Tryd.underlying27 ((Rd.cells (n := 1) (cs := bytesL [UInt8.ofNat k]) 0 rfl rfl).seq hs) (bytesL_one [UInt8.ofNat k])) (by simp only [bytesL_len, List.length_cons, List.length_nil]; omega) (by simp only [bytesL_len, List.length_cons, List.length_nil]; omega) ?_
        clear hs
        intro a117 c117 w hs
        simp only [List.set_cons_succ, List.set_cons_zero] at hs
        rw [show bytesL la ++ bytesL [UInt8.ofNat k] = bytesL (partA la k) from (bytesL_app _ _).symm] at hs
        refine lw_on rfl rfl (not_f (rfl)) ?_
        refine lw_call rfl en38 (sameB_sl (la := partA la k) (lb := partA la k) hs (hs.rdOwn 2 rfl) (hs.rdOwn 1 rfl) rfl (by rw [partA_len]; simp only [bytesL_len, List.length_cons, List.length_nil]) (by rw [partA_len]; omega)) ?_
        clear hs
        rintro _ w ⟨rfl, hs⟩
        refine lw_on rfl rfl (not_f (rfl)) ?_
        refine lw_val rfl (run_not rfl) ?_
        first | refine lw_val rfl (run_pickF (v := .bool _) rfl (not_f (rfl)) rfl) ?_
        first | refine lw_val rfl (run_move (v := .bool _) rfl) ?_
        refine lw_on rfl rfl (not_f (decide_eq_true rfl)) ?_
        first | refine lw_val rfl (run_move (v := .pointer (some _)) rfl) ?_ | refine lw_val rfl (run_move (v := .pointer none) rfl) ?_
        refine lw_on rfl rfl (not_f (decide_eq_true rfl)) ?_
        first | refine lw_val rfl (run_move (v := .slice _ _ _) rfl) ?_
        refine lw_on rfl rfl (not_f (decide_eq_true rfl)) ?_
        first | refine lw_val rfl (run_move (v := .int .i64 _) rfl) ?_
        refine lw_on rfl rfl (not_f (decide_eq_true rfl)) ?_
        refine lw_val rfl (run_indexAddr Tryd.underlying22 sz3 rfl rfl rfl (by omega) rfl) ?_
        refine lw_on rfl rfl (not_f (decide_eq_true rfl)) ?_
        refine lw_val rfl (run_load Tryd.underlying3 rfl rfl (hs.ownAt 4 rfl (idsA_at hjn))) ?_
        refine lw_on rfl rfl (not_f (decide_eq_true rfl)) ?_
        first | refine lw_val rfl (run_move (v := .slice _ _ _) rfl) ?_
        refine lw_on rfl rfl (not_f (decide_eq_true rfl)) ?_
        refine lw_call rfl en56 (part_sl hE (hs.pick 3 rfl) (by simp only [saS1]; omega) (by simp only [saS1]; omega) (b := lb) (hb.rd _) (by omega) (sa_p hjn hjk)) ?_
        clear hs
        rintro _ w ⟨rfl, hs⟩
        refine lw_on rfl rfl (not_f (decide_eq_true rfl)) ?_
        first | refine lw_val rfl (run_neerrn (ad := ad) rfl) ?_ | refine lw_val rfl (run_nenn rfl) ?_
        first | refine lw_val rfl (run_pickF (v := .bool _) rfl (not_f (decide_eq_true rfl)) rfl) ?_
        first | refine lw_val rfl (run_move (v := .bool _) rfl) ?_
        refine lw_on rfl rfl (not_f (decide_eq_true rfl)) ?_
        first | refine lw_val rfl (run_move (v := .pointer (some _)) rfl) ?_ | refine lw_val rfl (run_move (v := .pointer none) rfl) ?_
        refine lw_on rfl rfl (not_f (decide_eq_true rfl)) ?_
        first | refine lw_val rfl (run_move (v := .slice _ _ _) rfl) ?_
        refine lw_on rfl rfl (not_f (decide_eq_true rfl)) ?_
        first | refine lw_val rfl (run_move (v := .int .i64 _) rfl) ?_
        refine lw_on rfl rfl (not_f (decide_eq_true rfl)) ?_
        refine lw_val rfl (run_indexAddr Tryd.underlying22 sz3 rfl rfl rfl (by omega) rfl) ?_
        refine lw_on rfl rfl (not_f (decide_eq_true rfl)) ?_
        refine lw_val rfl (run_load Tryd.underlying3 rfl rfl (hs.ownAt 4 rfl (idsA_at hjn))) ?_
        refine lw_on rfl rfl (not_f (decide_eq_true rfl)) ?_
        refine lw_call rfl en58 (complete_sl hE (saS2_small (by omega) (by omega)) hs (by simp only [saS2]; omega) (by simp only [saS2, saS1]; omega) sa_c2) ?_
        clear hs
        rintro _ w ⟨rfl, hs⟩
        refine lw_on rfl rfl (not_f (decide_eq_true rfl)) ?_
        first | refine lw_val rfl (run_neerrn (ad := ad) rfl) ?_ | refine lw_val rfl (run_nenn rfl) ?_
        first | refine lw_val rfl (run_pickF (v := .bool _) rfl (not_f (decide_eq_true rfl)) rfl) ?_
        refine lw_nil ?_
        refine cw_iff rfl (not_f (decide_eq_true rfl)) ?_
        refine cw_skip ?_
        refine cw_seq ?_
        refine cw_region ?_
        first | refine lw_val rfl (run_move (v := .pointer (some _)) rfl) ?_ | refine lw_val rfl (run_move (v := .pointer none) rfl) ?_
        refine lw_call rfl en24 (bytes_sl hs (saS3_small (by omega) (by omega)) nQ (o := some (partA la j ++ lb)) (by simp [saS3, aget])) ?_
        clear hs
        rintro _ w ⟨a142, c142, rfl, hs⟩
        first | refine lw_val rfl (run_move (v := .tuple _) rfl) ?_
        first | refine lw_val rfl (run_extract (v := .slice _ _ _) rfl rfl) ?_
        first | refine lw_val rfl (run_extract (v := .bool _) rfl rfl) ?_
        first | refine lw_val rfl (run_assign (v := .slice _ _ _) rfl) ?_
        first | refine lw_val rfl (run_assign (v := .bool _) rfl) ?_
        refine lw_nil ?_
        refine cw_seq ?_
        refine cw_region ?_
        first | refine lw_val rfl (run_move (v := .slice _ _ _) rfl) ?_
        refine lw_call rfl en57 (bcopy_sl hs (ha.rd _) rfl (by omega)) ?_
        clear hs
        rintro _ w ⟨a146, c146, rfl, hs⟩
        first | refine lw_val rfl (run_move (v := .int .i64 _) rfl) ?_
        refine lw_val rfl (run_convIn Tryd.underlying3 Tryd.underlying5 rfl (c := (((UInt8.ofNat j).toNat : Nat) : Int)) (wrap_u8 (by omega))) ?_
        refine lw_buildSlice hs rfl ((bytesL [UInt8.ofNat j])) Tryd.underlying27 zs5 rfl (cells_one (bytesL_one _)) rfl rfl rfl ?_
        clear hs
        intro b149 w hs
        try simp only [List.set_cons_succ, List.set_cons_zero] at hs
        refine lw_append hs rfl 1 rfl Tryd.underlying27 in5 rfl rfl rfl (src_of_seq (P := Tryd.prog) Tryd.underlying27 ((Rd.cells (n := 1) (cs := bytesL [UInt8.ofNat j]) 0 rfl rfl).seq hs) (bytesL_one [UInt8.ofNat j])) (by simp only [bytesL_len, List.length_cons, List.length_nil]; omega) (by simp only [bytesL_len, List.length_cons, List.length_nil]; omega) ?_
        clear hs
        intro a150 c150 w hs
        simp only [List.set_cons_succ, List.set_cons_zero] at hs
        first | refine lw_val rfl (run_move (v := .slice _ _ _) rfl) ?_
        refine lw_append hs rfl 1 rfl Tryd.underlying27 in5 rfl rfl rfl (src_of_seq (P := Tryd.prog) Tryd.underlying27 ((hb.rd _).seq hs) (bytesL_one lb)) (by simp only [bytesL_len, List.length_append, List.length_cons, List.length_nil]; omega) (by simp only [bytesL_len, List.length_append, List.length_cons, List.length_nil]; omega) ?_
        clear hs
        intro a152 c152 w hs
        simp only [List.set_cons_succ, List.set_cons_zero] at hs
        rw [show bytesL la ++ bytesL [UInt8.ofNat j] ++ bytesL lb = bytesL (partA la j ++ lb) by rw [bytesL_app, partA, bytesL_app]] at hs
        first | refine lw_val rfl (run_assign (v := .slice _ _ _) rfl) ?_
        refine lw_nil ?_
        refine cw_seq ?_
        refine cw_region ?_
        first | refine lw_val rfl (run_assign (v := .slice _ _ _) rfl) ?_
        refine lw_nil ?_
        refine cw_seq ?_
        refine cw_seq ?_
        replace hs : Mem g w [own (.slice a152 ((bytesL la ++ bytesL [UInt8.ofNat j]).length + (bytesL lb).length) c152) (bytesL (partA la j ++ lb)), own (.slice a142 (partA la j ++ lb).length c142) (bytesL (partA la j ++ lb)), StoreC p (saS3 la lb (r0 + 2) k j), own (.slice (some ⟨b1, o1, none⟩) (idsA (r0 + 2)).length rc) (intsL (idsA (r0 + 2)))] := hs.arr [1, 2, 3, 7] 8 (by decide)
        refine cw_region ?_
        first | refine lw_val rfl (run_assign (v := .int .i64 _) rfl) ?_
        refine lw_nil ?_
        refine cw_block ?_
        refine cw_loop (X := Nat × Option Addr × Nat) [22, 23, 153, 154, 155, 156, 157, 158, 159, 160, 161, 162, 163, 164, 165, 166, 167, 168, 169, 170, 171, 172] (fun x => [(22, .slice x.2.1 (leftA x.1 k j).length x.2.2), (23, .int .i64 (x.1 : Nat))]) (fun x w => x.1 ≤ r0 + 2 ∧ Mem g w [own (.slice x.2.1 (leftA x.1 k j).length x.2.2) (intsL (leftA x.1 k j)), own (.slice a152 ((bytesL la ++ bytesL [UInt8.ofNat j]).length + (bytesL lb).length) c152) (bytesL (partA la j ++ lb)), own (.slice a142 (partA la j ++ lb).length c142) (bytesL (partA la j ++ lb)), StoreC p (saS3 la lb (r0 + 2) k j), own (.slice (some ⟨b1, o1, none⟩) (idsA (r0 + 2)).length rc) (intsL (idsA (r0 + 2)))]) (fun x => r0 + 2 - x.1) ((0, none, 0)) ?_ ?_ ?_
        · exact ⟨rfl, rfl, trivial⟩
        · exact ⟨Nat.zero_le _, hs.addE (own_nil _)⟩
        clear hs
        rintro x ξ w hI
        obtain ⟨i, ra, rc⟩ := x
        obtain ⟨hi, hs⟩ := hI
        simp only at hi hs
        have hll := leftA_len i k j
        show cw _ _ _ _ _ _ (updL (mix _ ξ _) [(22, .slice ra (leftA i k j).length rc), (23, .int .i64 (i : Nat))]) w
        refine cw_seq ?_
        refine cw_seq ?_
        refine cw_region ?_
        first | refine lw_val rfl (run_move (v := .int .i64 _) rfl) ?_
        first | refine lw_val rfl (run_move (v := .int .i64 _) rfl) ?_
        refine lw_val rfl (run_lss rfl rfl) ?_
        refine lw_nil ?_
        refine cw_if rfl ?_ ?_
        · intro h155
          have g155 := of_decide_eq_true h155
          refine cw_skip ?_
          refine cw_seq ?_
          refine cw_block ?_
          refine cw_seq ?_
          refine cw_region ?_
          first | refine lw_val rfl (run_move (v := .int .i64 _) rfl) ?_
          first | refine lw_val rfl (run_move (v := .int .i64 _) rfl) ?_
          refine lw_val rfl (run_nei rfl rfl) ?_
          first | refine lw_val rfl (run_move (v := .bool _) rfl) ?_
          refine lw_split (t := _) (d := 161) rfl ?_ ?_
          · intro h160
            have g160 := ne_t h160
            refine lw_on rfl rfl h160 ?_
            first | refine lw_val rfl (run_move (v := .int .i64 _) rfl) ?_
            refine lw_on rfl rfl h160 ?_
            first | refine lw_val rfl (run_move (v := .int .i64 _) rfl) ?_
            refine lw_on rfl rfl h160 ?_
            refine lw_val rfl (run_nei rfl rfl) ?_
            first | refine lw_val rfl (run_pickT (v := .bool _) rfl h160 rfl) ?_
            refine lw_nil ?_
            refine cw_if rfl ?_ ?_
            · intro h164
              have g164 := ne_t h164
              have e1 : leftA (i + 1) k j = leftA i k j ++ [((i + 1 : Nat) : Int)] := by rw [leftA_succ, if_pos ⟨by omega, by omega⟩]
              refine cw_region ?_
              first | refine lw_val rfl (run_move (v := .slice _ _ _) rfl) ?_
              first | refine lw_val rfl (run_move (v := .slice _ _ _) rfl) ?_
              first | refine lw_val rfl (run_move (v := .int .i64 _) rfl) ?_
              refine lw_val rfl (run_indexAddr Tryd.underlying22 sz3 rfl rfl rfl (by omega) rfl) ?_
              refine lw_val rfl (run_load Tryd.underlying3 rfl rfl (hs.ownAt 4 rfl (idsA_at (show i < r0 + 2 by omega)))) ?_
              refine lw_buildSlice hs rfl ((intsL [((i + 1 : Nat) : Int)])) Tryd.underlying22 zs3 rfl (cells_one (intsL_one _)) rfl rfl rfl ?_
              clear hs
              intro b171 w hs
              try simp only [List.set_cons_succ, List.set_cons_zero] at hs
              refine lw_append hs rfl 1 rfl Tryd.underlying22 in3 rfl rfl rfl (src_of_seq (P := Tryd.prog) Tryd.underlying22 ((Rd.cells (n := 1) (cs := intsL [((i + 1 : Nat) : Int)]) 0 rfl rfl).seq hs) (intsL_one [((i + 1 : Nat) : Int)])) (by simp only [intsL_len, List.length_cons, List.length_nil]; omega) (by simp only [intsL_len, List.length_cons, List.length_nil]; omega) ?_
              clear hs
              intro a172 c172 w hs
              simp only [List.set_cons_succ, List.set_cons_zero] at hs
              first | refine lw_val rfl (run_assign (v := .slice _ _ _) rfl) ?_
              refine lw_nil ?_
              refine cw_region ?_
              first | refine lw_val rfl (run_move (v := .int .i64 _) rfl) ?_
              refine lw_val rfl (run_add64 rfl rfl rfl (inI (by omega) (by omega))) ?_
              first | refine lw_val rfl (run_assign (v := .int .i64 _) rfl) ?_
              refine lw_nil ?_
              have h2 := hs.tail
              exact ⟨(i + 1, a172, c172), by simp only; omega, ⟨by simp only; omega, by simpa only [e1, intsL_app, List.length_append, intsL_len] using h2⟩, ⟨show Value.slice a172 ((intsL (leftA i k j)).length + (intsL [((i + 1 : Nat) : Int)]).length) c172 = Value.slice a172 (leftA (i + 1) k j).length c172 from by simp only [e1, List.length_append, intsL_len], rfl, trivial⟩, by repeat (first | exact Out.mix _ _ _ | refine Out.updo rfl ?_ | refine Out.upd rfl ?_ | refine Out.mixIn rfl ?_)⟩
            · intro h164
              have g164 := ne_f h164
              have e1 : leftA (i + 1) k j = leftA i k j := by rw [leftA_succ, if_neg (by omega)]; simp
              refine cw_skip ?_
              refine cw_region ?_
              first | refine lw_val rfl (run_move (v := .int .i64 _) rfl) ?_
              refine lw_val rfl (run_add64 rfl rfl rfl (inI (by omega) (by omega))) ?_
              first | refine lw_val rfl (run_assign (v := .int .i64 _) rfl) ?_
              refine lw_nil ?_
              exact ⟨(i + 1, ra, rc), by simp only; omega, ⟨by simp only; omega, by simpa only [e1] using hs⟩, ⟨show Value.slice ra (leftA i k j).length rc = Value.slice ra (leftA (i + 1) k j).length rc from by rw [e1], rfl, trivial⟩, by repeat (first | exact Out.mix _ _ _ | refine Out.updo rfl ?_ | refine Out.upd rfl ?_ | refine Out.mixIn rfl ?_)⟩
          · intro h160
            have g160 := ne_f h160
            have e1 : leftA (i + 1) k j = leftA i k j := by rw [leftA_succ, if_neg (by omega)]; simp
            refine lw_off rfl rfl rfl h160 ?_
            refine lw_off rfl rfl rfl h160 ?_
            refine lw_off rfl rfl rfl h160 ?_
            first | refine lw_val rfl (run_pickF (v := .bool _) rfl h160 rfl) ?_
            refine lw_nil ?_
            refine cw_iff rfl rfl ?_
            refine cw_skip ?_
            refine cw_region ?_
            first | refine lw_val rfl (run_move (v := .int .i64 _) rfl) ?_
            refine lw_val rfl (run_add64 rfl rfl rfl (inI (by omega) (by omega))) ?_
            first | refine lw_val rfl (run_assign (v := .int .i64 _) rfl) ?_
            refine lw_nil ?_
            exact ⟨(i + 1, ra, rc), by simp only; omega, ⟨by simp only; omega, by simpa only [e1] using hs⟩, ⟨show Value.slice ra (leftA i k j).length rc = Value.slice ra (leftA (i + 1) k j).length rc from by rw [e1], rfl, trivial⟩, by repeat (first | exact Out.mix _ _ _ | refine Out.updo rfl ?_ | refine Out.upd rfl ?_ | refine Out.mixIn rfl ?_)⟩
        · intro h155
          have g155 := of_decide_eq_false h155
          obtain rfl : i = r0 + 2 := by omega
          refine cw_exit rfl ?_
          refine cw_seq ?_
          refine cw_region ?_
          first | refine lw_val rfl (run_move (v := .bool _) rfl) ?_
          first | refine lw_val rfl (run_move (v := .bool _) rfl) ?_
          refine lw_on rfl rfl (rfl) ?_
          first | refine lw_val rfl (run_move (v := .slice _ _ _) rfl) ?_
          refine lw_on rfl rfl (rfl) ?_
          first | refine lw_val rfl (run_move (v := .slice _ _ _) rfl) ?_
          refine lw_on rfl rfl (rfl) ?_
          refine lw_call rfl en38 (sameB_sl (la := partA la j ++ lb) (lb := partA la j ++ lb) hs (hs.rdOwn 2 rfl) (hs.rdOwn 1 rfl) rfl (by simp only [List.length_append, partA_len, bytesL_len, List.length_cons, List.length_nil, Nat.zero_add]) (by rw [List.length_append, partA_len]; omega)) ?_
          clear hs
          rintro _ w ⟨rfl, hs⟩
          first | refine lw_val rfl (run_pickT (v := .bool _) rfl (rfl) rfl) ?_
          first | refine lw_val rfl (run_move (v := .bool _) rfl) ?_
          refine lw_on rfl rfl (decide_eq_true rfl) ?_
          first | refine lw_val rfl (run_move (v := .pointer (some _)) rfl) ?_ | refine lw_val rfl (run_move (v := .pointer none) rfl) ?_
          refine lw_on rfl rfl (decide_eq_true rfl) ?_
          refine lw_call rfl en54 (open_sl (hs.pick 3 rfl) (fun x hx => leftA_in (by rw [← sa_keys]; exact hx) (by omega)) (by rw [show (saS3 la lb (r0 + 2) k j).ups.length = (keysOf (saS3 la lb (r0 + 2) k j).ups).length by simp [keysOf], sa_keys]; omega)) ?_
          clear hs
          rintro _ w ⟨a181, c181, rfl, hs⟩
          rw [sa_keys, leftA_sorted] at hs ⊢
          refine lw_on rfl rfl (decide_eq_true rfl) ?_
          first | refine lw_val rfl (run_move (v := .slice _ _ _) rfl) ?_
          refine lw_on rfl rfl (decide_eq_true rfl) ?_
          refine lw_call rfl en59 (sameI_sl (la := leftA (r0 + 2) k j) (lb := leftA (r0 + 2) k j) hs (hs.rdOwn 0 rfl) (hs.rdOwn 2 rfl) rfl rfl (by omega)) ?_
          clear hs
          rintro _ w ⟨rfl, hs⟩
          first | refine lw_val rfl (run_pickT (v := .bool _) rfl (decide_eq_true rfl) rfl) ?_
          first | refine lw_val rfl (run_assign (v := .bool _) rfl) ?_
          refine lw_nil ?_
          refine cw_ret ?_
          refine res1 (v := .bool _) rfl rfl ?_
          exact ⟨_, rfl, ret_b (decide_eq_true rfl), hs.nil⟩
end Go.Proofs.YtjiigajekminaaaDoor
