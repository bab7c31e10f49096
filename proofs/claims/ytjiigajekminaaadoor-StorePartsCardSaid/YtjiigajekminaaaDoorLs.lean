/- Before, In, Rising; StoreLists: the walk. -/
import Derived.Test.YtjiigajekminaaaDoorRi
import Derived.Test.YtjiigajekminaaaDoorR
import Derived.Test.YtjiigajekminaaaDoorLi
import Derived.Test.YtjiigajekminaaaDoorLR
namespace Go.Proofs.YtjiigajekminaaaDoor
set_option linter.all false
open Go.RowKit
attribute [local irreducible] errV
variable {g w : World} {L M : List HP} {ad : Nat → Addr} {p q : Nat} {st : St}

theorem bl_len (x : ByteArray) : (bl x).length = x.size := by show x.data.toList.length = x.data.size; simp
theorem bl_at {x : ByteArray} {i : Nat} (h : i < x.size) : ∃ u, (bl x)[i]? = some u := ⟨(bl x)[i]'(by rw [bl_len]; exact h), List.getElem?_eq_getElem _⟩
theorem before_sl (hs : Mem g w L) (a b : ByteArray) (hla : a.size ≤ 1000000) : Calls Tryd.prog 89 #[.string a, .string b] w (Ret fun v w' => v = .bool (decide (bl a < bl b)) ∧ Mem g w' L) := by
  have la := bl_len a
  have lb := bl_len b
  refine calls_cw Tryd.func89 rfl rfl ?_
  skip
  refine cw_seq ?_
  refine cw_region ?_
  first | refine lw_val rfl (run_assign (v := .bool _) rfl) ?_
  refine lw_nil ?_
  refine cw_seq ?_
  refine cw_seq ?_
  refine cw_region ?_
  first | refine lw_val rfl (run_assign (v := .int .i64 _) rfl) ?_
  refine lw_nil ?_
  refine cw_block ?_
  refine cw_loop (X := Nat) [4, 5, 6, 7, 8, 9, 10, 11, 12, 13, 14, 15, 16, 17, 18, 19, 20, 21, 22, 23, 24, 25, 26, 27, 28, 29, 30, 31] (fun k => [(5, .int .i64 (k : Nat))]) (fun k w => k ≤ a.size ∧ k ≤ b.size ∧ (bl a).take k = (bl b).take k ∧ Mem g w L) (fun k => a.size - k) (0) ?_ ?_ ?_
  · exact ⟨rfl, trivial⟩
  · exact ⟨Nat.zero_le _, Nat.zero_le _, rfl, hs⟩
  clear hs
  rintro x ξ w hI
  obtain ⟨hk, hk2, hq, hs⟩ := hI
  refine cw_seq ?_
  refine cw_seq ?_
  refine cw_region ?_
  first | refine lw_val rfl (run_move (v := .int .i64 _) rfl) ?_
  first | refine lw_val rfl (run_move (v := .string _) rfl) ?_
  refine lw_val rfl (run_lenT Tryd.underlying9 rfl) ?_
  refine lw_val rfl (run_lss rfl rfl) ?_
  first | refine lw_val rfl (run_move (v := .bool _) rfl) ?_
  refine lw_split (t := _) (d := 10) rfl ?_ ?_
  · intro h9
    have g9 := of_decide_eq_true h9
    refine lw_on rfl rfl h9 ?_
    first | refine lw_val rfl (run_move (v := .int .i64 _) rfl) ?_
    refine lw_on rfl rfl h9 ?_
    first | refine lw_val rfl (run_move (v := .string _) rfl) ?_
    refine lw_on rfl rfl h9 ?_
    refine lw_val rfl (run_lenT Tryd.underlying9 rfl) ?_
    refine lw_on rfl rfl h9 ?_
    refine lw_val rfl (run_lss rfl rfl) ?_
    first | refine lw_val rfl (run_pickT (v := .bool _) rfl h9 rfl) ?_
    refine lw_nil ?_
    refine cw_if rfl ?_ ?_
    · intro h14
      have g14 := of_decide_eq_true h14
      obtain ⟨u, hu⟩ := bl_at (x := a) (i := x) (by omega)
      obtain ⟨v, hv⟩ := bl_at (x := b) (i := x) (by omega)
      refine cw_skip ?_
      refine cw_seq ?_
      refine cw_block ?_
      refine cw_seq ?_
      refine cw_drawS mixes hs ?_
      intro w tr hK
      replace hs := tr _ hs
      clear tr
      first | refine aw_take 0 rfl (by kernel_rfl) (by kernel_rfl) (by kernel_rfl) rfl (fun w hs => run_move (v := .string _) rfl) hK ?_
      first | refine aw_take 1 rfl (by kernel_rfl) (by kernel_rfl) (by kernel_rfl) rfl (fun w hs => run_move (v := .int .i64 _) rfl) hK ?_
      refine aw_take 2 rfl (by kernel_rfl) (by kernel_rfl) (by kernel_rfl) rfl (fun w hs => run_indexs Tryd.underlying9 rfl rfl hu) hK ?_
      first | refine aw_take 3 rfl (by kernel_rfl) (by kernel_rfl) (by kernel_rfl) rfl (fun w hs => run_move (v := .string _) rfl) hK ?_
      first | refine aw_take 4 rfl (by kernel_rfl) (by kernel_rfl) (by kernel_rfl) rfl (fun w hs => run_move (v := .int .i64 _) rfl) hK ?_
      refine aw_take 5 rfl (by kernel_rfl) (by kernel_rfl) (by kernel_rfl) rfl (fun w hs => run_indexs Tryd.underlying9 rfl rfl hv) hK ?_
      refine aw_take 6 rfl (by kernel_rfl) (by kernel_rfl) (by kernel_rfl) rfl (fun w hs => run_nei rfl rfl) hK ?_
      refine aw_done (by kernel_rfl) ?_
      clear hK
      refine cw_if rfl ?_ ?_
      · intro h24
        have g24 := ne_t h24
        refine cw_seq ?_
        refine cw_drawS mixes hs ?_
        intro w tr hK
        replace hs := tr _ hs
        clear tr
        first | refine aw_take 0 rfl (by kernel_rfl) (by kernel_rfl) (by kernel_rfl) rfl (fun w hs => run_move (v := .string _) rfl) hK ?_
        first | refine aw_take 1 rfl (by kernel_rfl) (by kernel_rfl) (by kernel_rfl) rfl (fun w hs => run_move (v := .int .i64 _) rfl) hK ?_
        refine aw_take 2 rfl (by kernel_rfl) (by kernel_rfl) (by kernel_rfl) rfl (fun w hs => run_indexs Tryd.underlying9 rfl rfl hu) hK ?_
        first | refine aw_take 3 rfl (by kernel_rfl) (by kernel_rfl) (by kernel_rfl) rfl (fun w hs => run_move (v := .string _) rfl) hK ?_
        first | refine aw_take 4 rfl (by kernel_rfl) (by kernel_rfl) (by kernel_rfl) rfl (fun w hs => run_move (v := .int .i64 _) rfl) hK ?_
        refine aw_take 5 rfl (by kernel_rfl) (by kernel_rfl) (by kernel_rfl) rfl (fun w hs => run_indexs Tryd.underlying9 rfl rfl hv) hK ?_
        refine aw_take 6 rfl (by kernel_rfl) (by kernel_rfl) (by kernel_rfl) rfl (fun w hs => run_lss rfl rfl) hK ?_
        first | refine aw_take 7 rfl (by kernel_rfl) (by kernel_rfl) (by kernel_rfl) rfl (fun w hs => run_assign (v := .bool _) rfl) hK ?_
        refine aw_done (by kernel_rfl) ?_
        clear hK
        refine cw_ret ?_
        refine res1 (v := .bool _) rfl rfl ?_
        have hne : u ≠ v := fun e => g24 (by rw [e])
        exact ⟨_, rfl, ret_b (decide_eq_decide.2 ((show ((u.toNat : Nat) : Int) < ((v.toNat : Nat) : Int) ↔ u < v by rw [UInt8.lt_iff_toNat_lt]; omega).trans (lt_at (x := 0) hne hq hu hv).symm)), hs⟩
      · intro h24
        have g24 := ne_f h24
        refine cw_skip ?_
        refine cw_region ?_
        first | refine lw_val rfl (run_move (v := .int .i64 _) rfl) ?_
        refine lw_val rfl (run_add64 rfl rfl rfl (inI (by omega) (by omega))) ?_
        first | refine lw_val rfl (run_assign (v := .int .i64 _) rfl) ?_
        refine lw_nil ?_
        have huv : u = v := UInt8.toNat_inj.1 (by omega)
        exact ⟨x + 1, by omega, ⟨by omega, by omega, by rw [List.take_add_one, List.take_add_one, hu, hv, hq, huv], hs⟩, ⟨rfl, trivial⟩, by repeat (first | exact Out.mix _ _ _ | refine Out.updo rfl ?_ | refine Out.upd rfl ?_ | refine Out.mixIn rfl ?_)⟩
    · intro h14
      have g14 := of_decide_eq_false h14
      refine cw_exit rfl ?_
      refine cw_seq ?_
      refine cw_region ?_
      first | refine lw_val rfl (run_move (v := .string _) rfl) ?_
      refine lw_val rfl (run_lenT Tryd.underlying9 rfl) ?_
      first | refine lw_val rfl (run_move (v := .string _) rfl) ?_
      refine lw_val rfl (run_lenT Tryd.underlying9 rfl) ?_
      refine lw_val rfl (run_lss rfl rfl) ?_
      first | refine lw_val rfl (run_assign (v := .bool _) rfl) ?_
      refine lw_nil ?_
      refine cw_ret ?_
      refine res1 (v := .bool _) rfl rfl ?_
      exact ⟨_, rfl, ret_b (decide_eq_decide.2 (by rw [lt_end hq (by omega) (by omega) (by omega)]; omega)), hs⟩
  · intro h9
    have g9 := of_decide_eq_false h9
    refine lw_off rfl rfl rfl h9 ?_
    refine lw_off rfl rfl rfl h9 ?_
    refine lw_off rfl rfl rfl h9 ?_
    refine lw_off rfl rfl rfl h9 ?_
    first | refine lw_val rfl (run_pickF (v := .bool _) rfl h9 rfl) ?_
    refine lw_nil ?_
    refine cw_iff rfl rfl ?_
    refine cw_exit rfl ?_
    refine cw_seq ?_
    refine cw_region ?_
    first | refine lw_val rfl (run_move (v := .string _) rfl) ?_
    refine lw_val rfl (run_lenT Tryd.underlying9 rfl) ?_
    first | refine lw_val rfl (run_move (v := .string _) rfl) ?_
    refine lw_val rfl (run_lenT Tryd.underlying9 rfl) ?_
    refine lw_val rfl (run_lss rfl rfl) ?_
    first | refine lw_val rfl (run_assign (v := .bool _) rfl) ?_
    refine lw_nil ?_
    refine cw_ret ?_
    refine res1 (v := .bool _) rfl rfl ?_
    exact ⟨_, rfl, ret_b (decide_eq_decide.2 (by rw [lt_end hq (by omega) (by omega) (by omega)]; omega)), hs⟩
theorem in_sl (hs : Mem g w L) {a : Option Addr} {n c : Nat} {l : List ByteArray} {k : ByteArray} (ha : Rd g L (.slice a n c) (textsL l)) (hn : n = l.length) (hlen : l.length ≤ 1073741824) :
    Calls Tryd.prog 53 #[.slice a n c, .string k] w (Ret fun v w' => ∃ b, (b = true ↔ k ∈ l) ∧ v = .bool b ∧ Mem g w' L) := by
  subst hn
  refine calls_cw Tryd.func53 rfl rfl ?_
  skip
  refine cw_seq ?_
  refine cw_region ?_
  first | refine lw_val rfl (run_assign (v := .bool _) rfl) ?_
  refine lw_nil ?_
  refine cw_seq ?_
  refine cw_seq ?_
  refine cw_region ?_
  first | refine lw_val rfl (run_assign (v := .int .i64 _) rfl) ?_
  refine lw_nil ?_
  refine cw_block ?_
  refine cw_loop (X := Nat) [4, 5, 6, 7, 8, 9, 10, 11, 12, 13, 14, 15, 16, 17] (fun i => [(5, .int .i64 (i : Nat))]) (fun i w => i ≤ l.length ∧ k ∉ l.take i ∧ Mem g w L) (fun i => l.length - i) (0) ?_ ?_ ?_
  · exact ⟨rfl, trivial⟩
  · exact ⟨Nat.zero_le _, by simp, hs⟩
  clear hs
  rintro x ξ w hI
  obtain ⟨hk, hq, hs⟩ := hI
  refine cw_seq ?_
  refine cw_seq ?_
  refine cw_region ?_
  first | refine lw_val rfl (run_move (v := .int .i64 _) rfl) ?_
  first | refine lw_val rfl (run_move (v := .slice _ _ _) rfl) ?_
  refine lw_val rfl (run_lenS Tryd.underlying69 rfl) ?_
  refine lw_val rfl (run_lss rfl rfl) ?_
  refine lw_nil ?_
  refine cw_if rfl ?_ ?_
  · intro h9
    have g9 := of_decide_eq_true h9
    obtain ⟨xa, hxa⟩ : ∃ xa, l[x]? = some xa := ⟨l[x]'(by omega), List.getElem?_eq_getElem _⟩
    obtain ⟨b1, o1, rfl, _⟩ := ha.cells' hs (by rw [textsL_len]; omega)
    refine cw_skip ?_
    refine cw_seq ?_
    refine cw_block ?_
    refine cw_seq ?_
    refine cw_region ?_
    first | refine lw_val rfl (run_move (v := .slice _ _ _) rfl) ?_
    first | refine lw_val rfl (run_move (v := .int .i64 _) rfl) ?_
    refine lw_val rfl (run_indexAddr Tryd.underlying69 sz9 rfl rfl rfl (by omega) rfl) ?_
    refine lw_val rfl (run_load Tryd.underlying9 rfl rfl (ha.cellAt hs (textsL_at hxa))) ?_
    first | refine lw_val rfl (run_move (v := .string _) rfl) ?_
    refine lw_val rfl (run_eqs rfl rfl) ?_
    refine lw_nil ?_
    refine cw_if rfl ?_ ?_
    · intro h17
      have g17 := of_decide_eq_true h17
      refine cw_seq ?_
      refine cw_region ?_
      first | refine lw_val rfl (run_assign (v := .bool _) rfl) ?_
      refine lw_nil ?_
      refine cw_ret ?_
      refine res1 (v := .bool _) rfl rfl ?_
      exact ⟨_, rfl, true, ⟨fun _ => by rw [← g17]; exact List.mem_of_getElem? hxa, fun _ => rfl⟩, rfl, hs⟩
    · intro h17
      have g17 := of_decide_eq_false h17
      refine cw_skip ?_
      refine cw_region ?_
      first | refine lw_val rfl (run_move (v := .int .i64 _) rfl) ?_
      refine lw_val rfl (run_add64 rfl rfl rfl (inI (by omega) (by omega))) ?_
      first | refine lw_val rfl (run_assign (v := .int .i64 _) rfl) ?_
      refine lw_nil ?_
      exact ⟨x + 1, by omega, ⟨by omega, by rw [List.take_add_one, hxa]; simp only [Option.toList, List.mem_append, List.mem_cons, List.not_mem_nil, or_false, not_or]; exact ⟨hq, fun e => g17 e.symm⟩, hs⟩, ⟨rfl, trivial⟩, by repeat (first | exact Out.mix _ _ _ | refine Out.updo rfl ?_ | refine Out.upd rfl ?_ | refine Out.mixIn rfl ?_)⟩
  · intro h9
    have g9 := of_decide_eq_false h9
    refine cw_exit rfl ?_
    refine cw_seq ?_
    refine cw_region ?_
    first | refine lw_val rfl (run_assign (v := .bool _) rfl) ?_
    refine lw_nil ?_
    refine cw_ret ?_
    refine res1 (v := .bool _) rfl rfl ?_
    have e : x = l.length := by omega
    rw [e, List.take_length] at hq
    exact ⟨_, rfl, false, ⟨(fun h => by cases h), fun h => absurd h hq⟩, rfl, hs⟩
theorem Mem.rdOwn {v : Value} {l : List Value} (hs : Mem g w L) (i : Nat) (hi : L[i]? = some (own v l)) : Rd g L v l := Rd.own i hi
theorem texts_sub_one {l : List ByteArray} {i j : Nat} : ∀ u ∈ ((textsL l).take i).drop j, u.oneCell' = true := fun u hu => textsL_one l u (List.mem_of_mem_take (List.mem_of_mem_drop hu))
set_option maxHeartbeats 1000000 in
theorem rising_sl (hs : Mem g w L) {a : Option Addr} {n c : Nat} {l : List ByteArray} (ha : Rd g L (.slice a n c) (textsL l)) (hn : n = l.length) (hlen : l.length ≤ 1000000) (hsz : ∀ x ∈ l, x.size ≤ 1000000) :
    Calls Tryd.prog 50 #[.slice a n c] w (Ret fun v w' => ∃ ao co, v = .slice ao (riseT l).length co ∧ Mem g w' (own (.slice ao (riseT l).length co) (textsL (riseT l)) :: L)) := by
  subst hn
  refine calls_cw Tryd.func50 rfl rfl ?_
  skip
  refine cw_seq ?_
  refine cw_region ?_
  first | refine lw_val rfl (run_assign (v := .slice _ _ _) rfl) ?_
  refine lw_nil ?_
  refine cw_seq ?_
  refine cw_region ?_
  first | refine lw_val rfl (run_assign (v := .slice _ _ _) rfl) ?_
  refine lw_nil ?_
  refine cw_seq ?_
  refine cw_seq ?_
  refine cw_region ?_
  first | refine lw_val rfl (run_assign (v := .int .i64 _) rfl) ?_
  refine lw_nil ?_
  refine cw_block ?_
  refine cw_loop (X := Nat × Option Addr × Nat) [3, 4, 5, 6, 7, 8, 9, 10, 11, 12, 13, 14, 15, 16, 17, 18, 19, 20, 21, 22, 23, 24, 25, 26, 27, 28, 29, 30, 31, 32, 33, 34, 35, 36, 37, 38, 39, 40, 41, 42, 43, 44, 45, 46, 47, 48, 49, 50, 51, 52, 53, 54, 55, 56, 57, 58, 59, 60, 61, 62, 63, 64] (fun x => [(3, .slice x.2.1 (riseT (l.take x.1)).length x.2.2), (4, .int .i64 (x.1 : Nat))]) (fun x w => x.1 ≤ l.length ∧ Mem g w (own (.slice x.2.1 (riseT (l.take x.1)).length x.2.2) (textsL (riseT (l.take x.1))) :: L)) (fun x => l.length - x.1) ((0, none, 0)) ?_ ?_ ?_
  · exact ⟨rfl, rfl, trivial⟩
  · exact ⟨Nat.zero_le _, hs.addE (own_nil _)⟩
  clear hs
  rintro x ξ w hI
  obtain ⟨i, ra, rc⟩ := x
  obtain ⟨hi, hs⟩ := hI
  simp only at hi hs
  have hrl := rise_len l i hi
  show cw _ _ _ _ _ _ (updL (mix _ ξ _) [(3, .slice ra (riseT (l.take i)).length rc), (4, .int .i64 (i : Nat))]) w
  refine cw_seq ?_
  refine cw_seq ?_
  refine cw_region ?_
  first | refine lw_val rfl (run_move (v := .int .i64 _) rfl) ?_
  first | refine lw_val rfl (run_move (v := .slice _ _ _) rfl) ?_
  refine lw_val rfl (run_lenS Tryd.underlying69 rfl) ?_
  refine lw_val rfl (run_lss rfl rfl) ?_
  refine lw_nil ?_
  refine cw_if rfl ?_ ?_
  · intro h10
    have g10 := of_decide_eq_true h10
    obtain ⟨xx, hxx⟩ : ∃ xx, l[i]? = some xx := ⟨l[i]'(by omega), List.getElem?_eq_getElem _⟩
    obtain ⟨b0, o0, rfl, _⟩ := ha.cons.cells' hs (by rw [textsL_len]; omega)
    have hrs := rise_succ hxx
    refine cw_skip ?_
    refine cw_seq ?_
    refine cw_block ?_
    refine cw_seq ?_
    refine cw_region ?_
    first | refine lw_val rfl (run_assign (v := .int .i64 _) rfl) ?_
    refine lw_nil ?_
    refine cw_seq ?_
    refine cw_block ?_
    refine cw_loop (X := Nat) [5, 13, 14, 15, 16, 17, 18, 19, 20, 21, 22, 23, 24, 25, 26, 27, 28, 29] (fun k => [(5, .int .i64 (k : Nat))]) (fun k w => k ≤ cntT (riseT (l.take i)) xx ∧ Mem g w (own (.slice ra (riseT (l.take i)).length rc) (textsL (riseT (l.take i))) :: L)) (fun k => (riseT (l.take i)).length - k) (0) ?_ ?_ ?_
    · exact ⟨rfl, trivial⟩
    · exact ⟨Nat.zero_le _, hs⟩
    clear hs
    rintro x ξ w hI
    obtain ⟨hk, hs⟩ := hI
    have hcl := cnt_le xx (riseT (l.take i))
    refine cw_seq ?_
    refine cw_seq ?_
    refine cw_drawS mixes hs ?_
    intro w tr hK
    replace hs := tr _ hs
    clear tr
    first | refine aw_take 0 rfl (by kernel_rfl) (by kernel_rfl) (by kernel_rfl) rfl (fun w hs => run_move (v := .int .i64 _) rfl) hK ?_
    first | refine aw_take 1 rfl (by kernel_rfl) (by kernel_rfl) (by kernel_rfl) rfl (fun w hs => run_move (v := .slice _ _ _) rfl) hK ?_
    refine aw_take 2 rfl (by kernel_rfl) (by kernel_rfl) (by kernel_rfl) rfl (fun w hs => run_lenS Tryd.underlying69 rfl) hK ?_
    refine aw_take 3 rfl (by kernel_rfl) (by kernel_rfl) (by kernel_rfl) rfl (fun w hs => run_lss rfl rfl) hK ?_
    first | refine aw_take 4 rfl (by kernel_rfl) (by kernel_rfl) (by kernel_rfl) rfl (fun w hs => run_move (v := .bool _) rfl) hK ?_
    refine aw_split (t := _) (d := 17) rfl ?_ ?_
    · intro h16
      have g16 := of_decide_eq_true h16
      obtain ⟨y, hy⟩ : ∃ y, (riseT (l.take i))[x]? = some y := ⟨(riseT (l.take i))[x]'(by omega), List.getElem?_eq_getElem _⟩
      obtain ⟨b1, o1, rfl, _⟩ := hs.ownCells 0 rfl (by rw [textsL_len]; omega)
      first | refine aw_takeOn 5 rfl (by kernel_rfl) (by kernel_rfl) (by kernel_rfl) rfl rfl rfl h16 (fun w hs => run_move (v := .slice _ _ _) rfl) hK ?_
      first | refine aw_takeOn 6 rfl (by kernel_rfl) (by kernel_rfl) (by kernel_rfl) rfl rfl rfl h16 (fun w hs => run_move (v := .int .i64 _) rfl) hK ?_
      refine aw_takeOn 7 rfl (by kernel_rfl) (by kernel_rfl) (by kernel_rfl) rfl rfl rfl h16 (fun w hs => run_indexAddr Tryd.underlying69 sz9 rfl rfl rfl (by omega) rfl) hK ?_
      refine aw_takeOn 8 rfl (by kernel_rfl) (by kernel_rfl) (by kernel_rfl) rfl rfl rfl h16 (fun w hs => run_load Tryd.underlying9 rfl rfl (hs.ownAt 0 rfl (textsL_at hy))) hK ?_
      first | refine aw_takeOn 9 rfl (by kernel_rfl) (by kernel_rfl) (by kernel_rfl) rfl rfl rfl h16 (fun w hs => run_move (v := .slice _ _ _) rfl) hK ?_
      first | refine aw_takeOn 10 rfl (by kernel_rfl) (by kernel_rfl) (by kernel_rfl) rfl rfl rfl h16 (fun w hs => run_move (v := .int .i64 _) rfl) hK ?_
      refine aw_takeOn 11 rfl (by kernel_rfl) (by kernel_rfl) (by kernel_rfl) rfl rfl rfl h16 (fun w hs => run_indexAddr Tryd.underlying69 sz9 rfl rfl rfl (by omega) rfl) hK ?_
      refine aw_takeOn 12 rfl (by kernel_rfl) (by kernel_rfl) (by kernel_rfl) rfl rfl rfl h16 (fun w hs => run_load Tryd.underlying9 rfl rfl (ha.cons.cellAt hs (textsL_at hxx))) hK ?_
      refine aw_ready [13] (by kernel_rfl) (by simp) ?_
      refine ⟨⟨_, rfl, ?_⟩, trivial⟩
      refine lw_on rfl rfl h16 ?_
      refine lw_call rfl en89 (before_sl hs y xx (hsz y (List.mem_of_mem_take ((rise_mem _ _).1 (List.mem_of_getElem? hy))))) ?_
      clear hs
      rintro _ w ⟨rfl, hs⟩
      clear hK
      have hK := hs
      refine lw_nil ⟨hK, ?_⟩
      first | refine aw_take 14 rfl (by kernel_rfl) (by kernel_rfl) (by kernel_rfl) rfl (fun w hs => run_pickT (v := .bool _) rfl h16 rfl) hK ?_
      refine aw_done (by kernel_rfl) ?_
      clear hK
      refine cw_if rfl ?_ ?_
      · intro h26
        have g26 := of_decide_eq_true h26
        refine cw_skip ?_
        refine cw_block ?_
        refine cw_region ?_
        first | refine lw_val rfl (run_move (v := .int .i64 _) rfl) ?_
        refine lw_val rfl (run_add64 rfl rfl rfl (inI (by omega) (by omega))) ?_
        first | refine lw_val rfl (run_assign (v := .int .i64 _) rfl) ?_
        refine lw_nil ?_
        exact ⟨x + 1, by omega, ⟨Nat.lt_of_le_of_ne hk (fun e => cnt_at (by rw [← e]; exact hy) g26), hs⟩, ⟨rfl, trivial⟩, by repeat (first | exact Out.mix _ _ _ | refine Out.updo rfl ?_ | refine Out.upd rfl ?_ | refine Out.mixIn rfl ?_)⟩
      · intro h26
        have g26 := of_decide_eq_false h26
        refine cw_exit rfl ?_
        refine cw_seq ?_
        refine cw_seq ?_
        have hkc : x = cntT (riseT (l.take i)) xx := Nat.le_antisymm hk (Nat.le_of_not_lt fun h => g26 (cnt_lt h hy))
        refine cw_drawS mixes hs ?_
        intro w tr hK
        replace hs := tr _ hs
        clear tr
        first | refine aw_take 0 rfl (by kernel_rfl) (by kernel_rfl) (by kernel_rfl) rfl (fun w hs => run_move (v := .int .i64 _) rfl) hK ?_
        first | refine aw_take 1 rfl (by kernel_rfl) (by kernel_rfl) (by kernel_rfl) rfl (fun w hs => run_move (v := .slice _ _ _) rfl) hK ?_
        refine aw_take 2 rfl (by kernel_rfl) (by kernel_rfl) (by kernel_rfl) rfl (fun w hs => run_lenS Tryd.underlying69 rfl) hK ?_
        refine aw_take 3 rfl (by kernel_rfl) (by kernel_rfl) (by kernel_rfl) rfl (fun w hs => run_lss rfl rfl) hK ?_
        first | refine aw_take 4 rfl (by kernel_rfl) (by kernel_rfl) (by kernel_rfl) rfl (fun w hs => run_move (v := .bool _) rfl) hK ?_
        first | refine aw_takeOn 5 rfl (by kernel_rfl) (by kernel_rfl) (by kernel_rfl) rfl rfl rfl (decide_eq_true (by omega)) (fun w hs => run_move (v := .slice _ _ _) rfl) hK ?_
        first | refine aw_takeOn 6 rfl (by kernel_rfl) (by kernel_rfl) (by kernel_rfl) rfl rfl rfl (decide_eq_true (by omega)) (fun w hs => run_move (v := .int .i64 _) rfl) hK ?_
        refine aw_takeOn 7 rfl (by kernel_rfl) (by kernel_rfl) (by kernel_rfl) rfl rfl rfl (decide_eq_true (by omega)) (fun w hs => run_indexAddr Tryd.underlying69 sz9 rfl rfl rfl (by omega) rfl) hK ?_
        refine aw_takeOn 8 rfl (by kernel_rfl) (by kernel_rfl) (by kernel_rfl) rfl rfl rfl (decide_eq_true (by omega)) (fun w hs => run_load Tryd.underlying9 rfl rfl (hs.ownAt 0 rfl (textsL_at hy))) hK ?_
        first | refine aw_takeOn 9 rfl (by kernel_rfl) (by kernel_rfl) (by kernel_rfl) rfl rfl rfl (decide_eq_true (by omega)) (fun w hs => run_move (v := .slice _ _ _) rfl) hK ?_
        first | refine aw_takeOn 10 rfl (by kernel_rfl) (by kernel_rfl) (by kernel_rfl) rfl rfl rfl (decide_eq_true (by omega)) (fun w hs => run_move (v := .int .i64 _) rfl) hK ?_
        refine aw_takeOn 11 rfl (by kernel_rfl) (by kernel_rfl) (by kernel_rfl) rfl rfl rfl (decide_eq_true (by omega)) (fun w hs => run_indexAddr Tryd.underlying69 sz9 rfl rfl rfl (by omega) rfl) hK ?_
        refine aw_takeOn 12 rfl (by kernel_rfl) (by kernel_rfl) (by kernel_rfl) rfl rfl rfl (decide_eq_true (by omega)) (fun w hs => run_load Tryd.underlying9 rfl rfl (ha.cons.cellAt hs (textsL_at hxx))) hK ?_
        refine aw_takeOn 13 rfl (by kernel_rfl) (by kernel_rfl) (by kernel_rfl) rfl rfl rfl (decide_eq_true (by omega)) (fun w hs => run_eqs rfl rfl) hK ?_
        first | refine aw_take 14 rfl (by kernel_rfl) (by kernel_rfl) (by kernel_rfl) rfl (fun w hs => run_pickT (v := .bool _) rfl (decide_eq_true (by omega)) rfl) hK ?_
        refine aw_done (by kernel_rfl) ?_
        clear hK
        refine cw_if rfl ?_ ?_
        · intro h43
          have g43 := of_decide_eq_true h43
          refine cw_exit rfl ?_
          refine cw_region ?_
          first | refine lw_val rfl (run_move (v := .int .i64 _) rfl) ?_
          refine lw_val rfl (run_add64 rfl rfl rfl (inI (by omega) (by omega))) ?_
          first | refine lw_val rfl (run_assign (v := .int .i64 _) rfl) ?_
          refine lw_nil ?_
          have hin : insT (riseT (l.take i)) xx = riseT (l.take i) := by unfold insT; rw [← hkc, hy, g43, if_pos rfl]
          exact ⟨(i + 1, _, rc), by simp only; omega, ⟨by simp only; omega, by simp only [hrs, hin]; exact hs⟩, ⟨show Value.slice _ (riseT (l.take i)).length rc = Value.slice _ (riseT (l.take (i + 1))).length rc from by rw [hrs, hin], rfl, trivial⟩, by repeat (first | exact Out.mix _ _ _ | refine Out.updo rfl ?_ | refine Out.upd rfl ?_ | refine Out.mixIn rfl ?_)⟩
        · intro h43
          have g43 := of_decide_eq_false h43
          refine cw_skip ?_
          refine cw_seq ?_
          have hins : insT (riseT (l.take i)) xx = (riseT (l.take i)).take x ++ xx :: (riseT (l.take i)).drop x := by unfold insT; rw [← hkc, if_neg (by rw [hy]; simpa using g43)]
          obtain ⟨F, hF⟩ := hs.read (i := 0) rfl
          have hop := hF.1.seq.open
          refine cw_drawS mixes hs ?_
          intro w tr hK
          replace hs := tr _ hs
          clear tr
          first | refine aw_take 0 rfl (by kernel_rfl) (by kernel_rfl) (by kernel_rfl) rfl (fun w hs => run_move (v := .slice _ _ _) rfl) hK ?_
          refine aw_take 1 rfl (by kernel_rfl) (by kernel_rfl) (by kernel_rfl) rfl (fun w hs => run_lenS Tryd.underlying69 rfl) hK ?_
          refine aw_take 2 rfl (by kernel_rfl) (by kernel_rfl) (by kernel_rfl) rfl (fun w hs => run_add64 rfl rfl rfl (inI (by omega) (by omega))) hK ?_
          first | refine aw_take 4 rfl (by kernel_rfl) (by kernel_rfl) (by kernel_rfl) rfl (fun w hs => run_move (v := .slice _ _ _) rfl) hK ?_
          first | refine aw_take 5 rfl (by kernel_rfl) (by kernel_rfl) (by kernel_rfl) rfl (fun w hs => run_move (v := .int .i64 _) rfl) hK ?_
          refine aw_take 6 rfl (by kernel_rfl) (by kernel_rfl) (by kernel_rfl) rfl (fun w hs => run_sliceTo Tryd.underlying69 sz9 rfl rfl (hi := x) rfl (by omega)) hK ?_
          refine aw_ready [3] (by kernel_rfl) (by simp) ?_
          refine ⟨⟨_, rfl, ?_⟩, trivial⟩
          refine lw_makeSlice hs rfl Tryd.underlying69 in9 rfl rfl rfl (l := 0) (c := (riseT (l.take i)).length + 1) rfl rfl (by omega) (by omega) (by omega) ?_
          clear hs
          intro b48 w hs
          try simp only [List.set_cons_succ, List.set_cons_zero] at hs
          clear hK
          have hK := hs.tail
          refine lw_nil ⟨hK, ?_⟩
          refine aw_ready [7] (by kernel_rfl) (by simp) ?_
          refine ⟨⟨_, rfl, ?_⟩, trivial⟩
          refine lw_append hs rfl 0 rfl Tryd.underlying69 in9 rfl rfl rfl (src_of_seq (P := Tryd.prog) Tryd.underlying69 (((hs.rdOwn 1 rfl).sub (lo := 0) (hi := x) (Nat.zero_le _) (by omega)).seq hs) texts_sub_one) (by simp only [List.length_append, List.length_replicate, List.length_take, List.length_drop, textsL_len, List.length_cons, List.length_nil]; omega) (by simp only [List.length_append, List.length_replicate, List.length_take, List.length_drop, textsL_len, List.length_cons, List.length_nil]; omega) ?_
          clear hs
          intro a52 c52 w hs
          simp only [List.set_cons_succ, List.set_cons_zero] at hs
          clear hK
          have hK := hs.tail
          refine lw_nil ⟨hK, ?_⟩
          first | refine aw_take 8 rfl (by kernel_rfl) (by kernel_rfl) (by kernel_rfl) rfl (fun w hs => run_assign (v := .slice _ _ _) rfl) hK ?_
          refine aw_done (by kernel_rfl) ?_
          clear hK
          refine cw_seq ?_
          refine cw_region ?_
          first | refine lw_val rfl (run_move (v := .slice _ _ _) rfl) ?_
          first | refine lw_val rfl (run_move (v := .slice _ _ _) rfl) ?_
          first | refine lw_val rfl (run_move (v := .int .i64 _) rfl) ?_
          refine lw_val rfl (run_indexAddr Tryd.underlying69 sz9 rfl rfl rfl (by omega) rfl) ?_
          refine lw_val rfl (run_load Tryd.underlying9 rfl rfl (ha.cons.cons.cellAt hs (textsL_at hxx))) ?_
          refine lw_buildSlice hs rfl ((textsL [xx])) Tryd.underlying69 zs9 rfl (cells_one (textsL_one _)) rfl rfl rfl ?_
          clear hs
          intro b58 w hs
          try simp only [List.set_cons_succ, List.set_cons_zero] at hs
          refine lw_append hs rfl 1 rfl Tryd.underlying69 in9 rfl rfl rfl (src_of_seq (P := Tryd.prog) Tryd.underlying69 ((Rd.cells (n := 1) (cs := textsL [xx]) 0 rfl rfl).seq hs) (textsL_one [xx])) (by simp only [List.length_append, List.length_replicate, List.length_take, List.length_drop, textsL_len, List.length_cons, List.length_nil]; omega) (by simp only [List.length_append, List.length_replicate, List.length_take, List.length_drop, textsL_len, List.length_cons, List.length_nil]; omega) ?_
          clear hs
          intro a59 c59 w hs
          simp only [List.set_cons_succ, List.set_cons_zero] at hs
          first | refine lw_val rfl (run_assign (v := .slice _ _ _) rfl) ?_
          refine lw_nil ?_
          refine cw_region ?_
          first | refine lw_val rfl (run_move (v := .slice _ _ _) rfl) ?_
          first | refine lw_val rfl (run_move (v := .slice _ _ _) rfl) ?_
          first | refine lw_val rfl (run_move (v := .int .i64 _) rfl) ?_
          refine lw_val rfl (run_sliceFrom Tryd.underlying69 sz9 rfl rfl (lo := x) rfl (by omega)) ?_
          refine lw_append hs rfl 1 rfl Tryd.underlying69 in9 rfl rfl rfl (src_of_seq (P := Tryd.prog) Tryd.underlying69 (((hs.rdOwn 2 rfl).sub (lo := x) (hi := (riseT (l.take i)).length) (by omega) (Nat.le_refl _)).seq hs) texts_sub_one) (by simp only [List.length_append, List.length_replicate, List.length_take, List.length_drop, textsL_len, List.length_cons, List.length_nil]; omega) (by simp only [List.length_append, List.length_replicate, List.length_take, List.length_drop, textsL_len, List.length_cons, List.length_nil]; omega) ?_
          clear hs
          intro a64 c64 w hs
          simp only [List.set_cons_succ, List.set_cons_zero] at hs
          first | refine lw_val rfl (run_assign (v := .slice _ _ _) rfl) ?_
          refine lw_nil ?_
          refine cw_region ?_
          first | refine lw_val rfl (run_move (v := .int .i64 _) rfl) ?_
          refine lw_val rfl (run_add64 rfl rfl rfl (inI (by omega) (by omega))) ?_
          first | refine lw_val rfl (run_assign (v := .int .i64 _) rfl) ?_
          refine lw_nil ?_
          have e64 : ((List.replicate 0 (Value.string ByteArray.empty) ++ ((textsL (riseT (l.take i))).take x).drop 0) ++ textsL [xx]) ++ ((textsL (riseT (l.take i))).take (riseT (l.take i)).length).drop x = textsL (insT (riseT (l.take i)) xx) := by rw [hins, List.take_of_length_le (show (textsL (riseT (l.take i))).length ≤ (riseT (l.take i)).length by rw [textsL_len]; exact Nat.le_refl _)]; simp [textsL, List.map_take, List.map_drop]
          have n64 : ((List.replicate 0 (Value.string ByteArray.empty) ++ ((textsL (riseT (l.take i))).take x).drop 0) ++ textsL [xx]).length + (((textsL (riseT (l.take i))).take (riseT (l.take i)).length).drop x).length = (insT (riseT (l.take i)) xx).length := by rw [← List.length_append, e64, textsL_len]
          have h2 : Mem g w (own (.slice a64 (((List.replicate 0 (Value.string ByteArray.empty) ++ ((textsL (riseT (l.take i))).take x).drop 0) ++ textsL [xx]).length + (((textsL (riseT (l.take i))).take (riseT (l.take i)).length).drop x).length) c64) (((List.replicate 0 (Value.string ByteArray.empty) ++ ((textsL (riseT (l.take i))).take x).drop 0) ++ textsL [xx]) ++ ((textsL (riseT (l.take i))).take (riseT (l.take i)).length).drop x) :: L) := hs.arr [1] 3 (by decide)
          exact ⟨(i + 1, a64, c64), by simp only; omega, ⟨by simp only; omega, by simp only [hrs]; rw [← n64, ← e64]; exact h2⟩, ⟨show Value.slice a64 (((List.replicate 0 (Value.string ByteArray.empty) ++ ((textsL (riseT (l.take i))).take x).drop 0) ++ textsL [xx]).length + (((textsL (riseT (l.take i))).take (riseT (l.take i)).length).drop x).length) c64 = Value.slice a64 (riseT (l.take (i + 1))).length c64 from by rw [hrs, n64], rfl, trivial⟩, by repeat (first | exact Out.mix _ _ _ | refine Out.updo rfl ?_ | refine Out.upd rfl ?_ | refine Out.mixIn rfl ?_)⟩
    · intro h16
      have g16 := of_decide_eq_false h16
      refine aw_takeOff 5 rfl (by kernel_rfl) (by kernel_rfl) (by kernel_rfl) rfl rfl rfl h16 hK ?_
      refine aw_takeOff 6 rfl (by kernel_rfl) (by kernel_rfl) (by kernel_rfl) rfl rfl rfl h16 hK ?_
      refine aw_takeOff 7 rfl (by kernel_rfl) (by kernel_rfl) (by kernel_rfl) rfl rfl rfl h16 hK ?_
      refine aw_takeOff 8 rfl (by kernel_rfl) (by kernel_rfl) (by kernel_rfl) rfl rfl rfl h16 hK ?_
      refine aw_takeOff 9 rfl (by kernel_rfl) (by kernel_rfl) (by kernel_rfl) rfl rfl rfl h16 hK ?_
      refine aw_takeOff 10 rfl (by kernel_rfl) (by kernel_rfl) (by kernel_rfl) rfl rfl rfl h16 hK ?_
      refine aw_takeOff 11 rfl (by kernel_rfl) (by kernel_rfl) (by kernel_rfl) rfl rfl rfl h16 hK ?_
      refine aw_takeOff 12 rfl (by kernel_rfl) (by kernel_rfl) (by kernel_rfl) rfl rfl rfl h16 hK ?_
      refine aw_takeOff 13 rfl (by kernel_rfl) (by kernel_rfl) (by kernel_rfl) rfl rfl rfl h16 hK ?_
      first | refine aw_take 14 rfl (by kernel_rfl) (by kernel_rfl) (by kernel_rfl) rfl (fun w hs => run_pickF (v := .bool _) rfl h16 rfl) hK ?_
      refine aw_done (by kernel_rfl) ?_
      clear hK
      refine cw_iff rfl rfl ?_
      refine cw_exit rfl ?_
      refine cw_seq ?_
      refine cw_seq ?_
      have hkc : x = cntT (riseT (l.take i)) xx := by omega
      refine cw_drawS mixes hs ?_
      intro w tr hK
      replace hs := tr _ hs
      clear tr
      first | refine aw_take 0 rfl (by kernel_rfl) (by kernel_rfl) (by kernel_rfl) rfl (fun w hs => run_move (v := .int .i64 _) rfl) hK ?_
      first | refine aw_take 1 rfl (by kernel_rfl) (by kernel_rfl) (by kernel_rfl) rfl (fun w hs => run_move (v := .slice _ _ _) rfl) hK ?_
      refine aw_take 2 rfl (by kernel_rfl) (by kernel_rfl) (by kernel_rfl) rfl (fun w hs => run_lenS Tryd.underlying69 rfl) hK ?_
      refine aw_take 3 rfl (by kernel_rfl) (by kernel_rfl) (by kernel_rfl) rfl (fun w hs => run_lss rfl rfl) hK ?_
      first | refine aw_take 4 rfl (by kernel_rfl) (by kernel_rfl) (by kernel_rfl) rfl (fun w hs => run_move (v := .bool _) rfl) hK ?_
      refine aw_takeOff 5 rfl (by kernel_rfl) (by kernel_rfl) (by kernel_rfl) rfl rfl rfl (decide_eq_false (by omega)) hK ?_
      refine aw_takeOff 6 rfl (by kernel_rfl) (by kernel_rfl) (by kernel_rfl) rfl rfl rfl (decide_eq_false (by omega)) hK ?_
      refine aw_takeOff 7 rfl (by kernel_rfl) (by kernel_rfl) (by kernel_rfl) rfl rfl rfl (decide_eq_false (by omega)) hK ?_
      refine aw_takeOff 8 rfl (by kernel_rfl) (by kernel_rfl) (by kernel_rfl) rfl rfl rfl (decide_eq_false (by omega)) hK ?_
      refine aw_takeOff 9 rfl (by kernel_rfl) (by kernel_rfl) (by kernel_rfl) rfl rfl rfl (decide_eq_false (by omega)) hK ?_
      refine aw_takeOff 10 rfl (by kernel_rfl) (by kernel_rfl) (by kernel_rfl) rfl rfl rfl (decide_eq_false (by omega)) hK ?_
      refine aw_takeOff 11 rfl (by kernel_rfl) (by kernel_rfl) (by kernel_rfl) rfl rfl rfl (decide_eq_false (by omega)) hK ?_
      refine aw_takeOff 12 rfl (by kernel_rfl) (by kernel_rfl) (by kernel_rfl) rfl rfl rfl (decide_eq_false (by omega)) hK ?_
      refine aw_takeOff 13 rfl (by kernel_rfl) (by kernel_rfl) (by kernel_rfl) rfl rfl rfl (decide_eq_false (by omega)) hK ?_
      first | refine aw_take 14 rfl (by kernel_rfl) (by kernel_rfl) (by kernel_rfl) rfl (fun w hs => run_pickF (v := .bool _) rfl (decide_eq_false (by omega)) rfl) hK ?_
      refine aw_done (by kernel_rfl) ?_
      clear hK
      refine cw_iff rfl rfl ?_
      refine cw_skip ?_
      refine cw_seq ?_
      have hins : insT (riseT (l.take i)) xx = (riseT (l.take i)).take x ++ xx :: (riseT (l.take i)).drop x := by unfold insT; rw [← hkc, if_neg (by rw [List.getElem?_eq_none (by omega)]; simp)]
      obtain ⟨F, hF⟩ := hs.read (i := 0) rfl
      have hop := hF.1.seq.open
      refine cw_drawS mixes hs ?_
      intro w tr hK
      replace hs := tr _ hs
      clear tr
      first | refine aw_take 0 rfl (by kernel_rfl) (by kernel_rfl) (by kernel_rfl) rfl (fun w hs => run_move (v := .slice _ _ _) rfl) hK ?_
      refine aw_take 1 rfl (by kernel_rfl) (by kernel_rfl) (by kernel_rfl) rfl (fun w hs => run_lenS Tryd.underlying69 rfl) hK ?_
      refine aw_take 2 rfl (by kernel_rfl) (by kernel_rfl) (by kernel_rfl) rfl (fun w hs => run_add64 rfl rfl rfl (inI (by omega) (by omega))) hK ?_
      first | refine aw_take 4 rfl (by kernel_rfl) (by kernel_rfl) (by kernel_rfl) rfl (fun w hs => run_move (v := .slice _ _ _) rfl) hK ?_
      first | refine aw_take 5 rfl (by kernel_rfl) (by kernel_rfl) (by kernel_rfl) rfl (fun w hs => run_move (v := .int .i64 _) rfl) hK ?_
      refine aw_take 6 rfl (by kernel_rfl) (by kernel_rfl) (by kernel_rfl) rfl (fun w hs => run_sliceTo Tryd.underlying69 sz9 rfl rfl (hi := x) rfl (by omega)) hK ?_
      refine aw_ready [3] (by kernel_rfl) (by simp) ?_
      refine ⟨⟨_, rfl, ?_⟩, trivial⟩
      refine lw_makeSlice hs rfl Tryd.underlying69 in9 rfl rfl rfl (l := 0) (c := (riseT (l.take i)).length + 1) rfl rfl (by omega) (by omega) (by omega) ?_
      clear hs
      intro b48 w hs
      try simp only [List.set_cons_succ, List.set_cons_zero] at hs
      clear hK
      have hK := hs.tail
      refine lw_nil ⟨hK, ?_⟩
      refine aw_ready [7] (by kernel_rfl) (by simp) ?_
      refine ⟨⟨_, rfl, ?_⟩, trivial⟩
      refine lw_append hs rfl 0 rfl Tryd.underlying69 in9 rfl rfl rfl (src_of_seq (P := Tryd.prog) Tryd.underlying69 (((hs.rdOwn 1 rfl).sub (lo := 0) (hi := x) (Nat.zero_le _) (by omega)).seq hs) texts_sub_one) (by simp only [List.length_append, List.length_replicate, List.length_take, List.length_drop, textsL_len, List.length_cons, List.length_nil]; omega) (by simp only [List.length_append, List.length_replicate, List.length_take, List.length_drop, textsL_len, List.length_cons, List.length_nil]; omega) ?_
      clear hs
      intro a52 c52 w hs
      simp only [List.set_cons_succ, List.set_cons_zero] at hs
      clear hK
      have hK := hs.tail
      refine lw_nil ⟨hK, ?_⟩
      first | refine aw_take 8 rfl (by kernel_rfl) (by kernel_rfl) (by kernel_rfl) rfl (fun w hs => run_assign (v := .slice _ _ _) rfl) hK ?_
      refine aw_done (by kernel_rfl) ?_
      clear hK
      refine cw_seq ?_
      refine cw_region ?_
      first | refine lw_val rfl (run_move (v := .slice _ _ _) rfl) ?_
      first | refine lw_val rfl (run_move (v := .slice _ _ _) rfl) ?_
      first | refine lw_val rfl (run_move (v := .int .i64 _) rfl) ?_
      refine lw_val rfl (run_indexAddr Tryd.underlying69 sz9 rfl rfl rfl (by omega) rfl) ?_
      refine lw_val rfl (run_load Tryd.underlying9 rfl rfl (ha.cons.cons.cellAt hs (textsL_at hxx))) ?_
      refine lw_buildSlice hs rfl ((textsL [xx])) Tryd.underlying69 zs9 rfl (cells_one (textsL_one _)) rfl rfl rfl ?_
      clear hs
      intro b58 w hs
      try simp only [List.set_cons_succ, List.set_cons_zero] at hs
      refine lw_append hs rfl 1 rfl Tryd.underlying69 in9 rfl rfl rfl (src_of_seq (P := Tryd.prog) Tryd.underlying69 ((Rd.cells (n := 1) (cs := textsL [xx]) 0 rfl rfl).seq hs) (textsL_one [xx])) (by simp only [List.length_append, List.length_replicate, List.length_take, List.length_drop, textsL_len, List.length_cons, List.length_nil]; omega) (by simp only [List.length_append, List.length_replicate, List.length_take, List.length_drop, textsL_len, List.length_cons, List.length_nil]; omega) ?_
      clear hs
      intro a59 c59 w hs
      simp only [List.set_cons_succ, List.set_cons_zero] at hs
      first | refine lw_val rfl (run_assign (v := .slice _ _ _) rfl) ?_
      refine lw_nil ?_
      refine cw_region ?_
      first | refine lw_val rfl (run_move (v := .slice _ _ _) rfl) ?_
      first | refine lw_val rfl (run_move (v := .slice _ _ _) rfl) ?_
      first | refine lw_val rfl (run_move (v := .int .i64 _) rfl) ?_
      refine lw_val rfl (run_sliceFrom Tryd.underlying69 sz9 rfl rfl (lo := x) rfl (by omega)) ?_
      refine lw_append hs rfl 1 rfl Tryd.underlying69 in9 rfl rfl rfl (src_of_seq (P := Tryd.prog) Tryd.underlying69 (((hs.rdOwn 2 rfl).sub (lo := x) (hi := (riseT (l.take i)).length) (by omega) (Nat.le_refl _)).seq hs) texts_sub_one) (by simp only [List.length_append, List.length_replicate, List.length_take, List.length_drop, textsL_len, List.length_cons, List.length_nil]; omega) (by simp only [List.length_append, List.length_replicate, List.length_take, List.length_drop, textsL_len, List.length_cons, List.length_nil]; omega) ?_
      clear hs
      intro a64 c64 w hs
      simp only [List.set_cons_succ, List.set_cons_zero] at hs
      first | refine lw_val rfl (run_assign (v := .slice _ _ _) rfl) ?_
      refine lw_nil ?_
      refine cw_region ?_
      first | refine lw_val rfl (run_move (v := .int .i64 _) rfl) ?_
      refine lw_val rfl (run_add64 rfl rfl rfl (inI (by omega) (by omega))) ?_
      first | refine lw_val rfl (run_assign (v := .int .i64 _) rfl) ?_
      refine lw_nil ?_
      have e64 : ((List.replicate 0 (Value.string ByteArray.empty) ++ ((textsL (riseT (l.take i))).take x).drop 0) ++ textsL [xx]) ++ ((textsL (riseT (l.take i))).take (riseT (l.take i)).length).drop x = textsL (insT (riseT (l.take i)) xx) := by rw [hins, List.take_of_length_le (show (textsL (riseT (l.take i))).length ≤ (riseT (l.take i)).length by rw [textsL_len]; exact Nat.le_refl _)]; simp [textsL, List.map_take, List.map_drop]
      have n64 : ((List.replicate 0 (Value.string ByteArray.empty) ++ ((textsL (riseT (l.take i))).take x).drop 0) ++ textsL [xx]).length + (((textsL (riseT (l.take i))).take (riseT (l.take i)).length).drop x).length = (insT (riseT (l.take i)) xx).length := by rw [← List.length_append, e64, textsL_len]
      have h2 : Mem g w (own (.slice a64 (((List.replicate 0 (Value.string ByteArray.empty) ++ ((textsL (riseT (l.take i))).take x).drop 0) ++ textsL [xx]).length + (((textsL (riseT (l.take i))).take (riseT (l.take i)).length).drop x).length) c64) (((List.replicate 0 (Value.string ByteArray.empty) ++ ((textsL (riseT (l.take i))).take x).drop 0) ++ textsL [xx]) ++ ((textsL (riseT (l.take i))).take (riseT (l.take i)).length).drop x) :: L) := hs.arr [1] 3 (by decide)
      exact ⟨(i + 1, a64, c64), by simp only; omega, ⟨by simp only; omega, by simp only [hrs]; rw [← n64, ← e64]; exact h2⟩, ⟨show Value.slice a64 (((List.replicate 0 (Value.string ByteArray.empty) ++ ((textsL (riseT (l.take i))).take x).drop 0) ++ textsL [xx]).length + (((textsL (riseT (l.take i))).take (riseT (l.take i)).length).drop x).length) c64 = Value.slice a64 (riseT (l.take (i + 1))).length c64 from by rw [hrs, n64], rfl, trivial⟩, by repeat (first | exact Out.mix _ _ _ | refine Out.updo rfl ?_ | refine Out.upd rfl ?_ | refine Out.mixIn rfl ?_)⟩
  · intro h10
    have g10 := of_decide_eq_false h10
    refine cw_exit rfl ?_
    refine cw_seq ?_
    refine cw_region ?_
    first | refine lw_val rfl (run_move (v := .slice _ _ _) rfl) ?_
    first | refine lw_val rfl (run_assign (v := .slice _ _ _) rfl) ?_
    refine lw_nil ?_
    refine cw_ret ?_
    refine res1 (v := .slice _ _ _) rfl rfl ?_
    have e : i = l.length := by omega
    refine ⟨_, rfl, ra, rc, ?_, ?_⟩
    · show Value.slice ra (riseT (l.take i)).length rc = _; rw [e, List.take_length]
    · rw [e, List.take_length] at hs; exact hs
end Go.Proofs.YtjiigajekminaaaDoor
