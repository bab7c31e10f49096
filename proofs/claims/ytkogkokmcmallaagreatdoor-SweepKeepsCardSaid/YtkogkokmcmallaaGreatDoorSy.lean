/- The law SweepSays: orphans, loose uploads. -/
import Derived.Test.YtkogkokmcmallaaGreatDoorSv
namespace Go.Proofs.YtkogkokmcmallaaGreatDoor
set_option linter.all false
open Go.RowKit
attribute [local irreducible] errV
variable {g w : World} {L M : List HP} {ad : Nat → Addr} {p : Nat} {V : Vw}

def looseL (own_ : Int) (l : List Int) : List Int := l.filter fun x => decide (x ≠ own_)
theorem loose_next {o : Int} {l : List Int} {k : Nat} {y : Int} (hy : l[k]? = some y) : looseL o (l.take (k + 1)) = looseL o (l.take k) ++ (if y = o then [] else [y]) := by
  rw [looseL, List.take_add_one, hy, List.filter_append, looseL]
  congr 1
  by_cases h : y = o <;> simp [h]
theorem loose_len (o : Int) (l : List Int) : (looseL o l).length ≤ l.length := List.length_filter_le _ _
theorem loose_sl (hs : Mem g w L) {a : Option Addr} {n c : Nat} {l : List Int} (o : Int) (hr : Rd g L (.slice a n c) (intsL l)) (hn : n = l.length) (hlen : l.length ≤ 1000000) : Calls Tryz.prog 103 #[.int .i64 o, .slice a n c] w (Ret fun v w' => ∃ s : SA, v = .slice s.1 (looseL o l).length s.2 ∧ Mem g w' (own (.slice s.1 (looseL o l).length s.2) (intsL (looseL o l)) :: L)) := by
  subst hn
  refine calls_cw Tryz.func103 rfl rfl ?_
  skip
  refine cw_seq ?_
  refine cw_region ?_
  refine lw_val rfl (run_assign (v := .slice _ _ _) rfl) ?_
  refine lw_nil ?_
  refine cw_seq ?_
  refine cw_region ?_
  refine lw_val rfl (run_assign (v := .slice _ _ _) rfl) ?_
  refine lw_nil ?_
  refine cw_seq ?_
  refine cw_seq ?_
  refine cw_region ?_
  refine lw_val rfl (run_move (v := .slice _ _ _) rfl) ?_
  refine lw_val rfl (run_lenS Tryz.underlying22 rfl) ?_
  refine lw_val rfl (run_move (v := .int .i64 _) rfl) ?_
  refine lw_nil ?_
  replace hs := hs.addE (own_nil _)
  refine cw_block ?_
  refine cw_loop (X := Nat × SA) [5, 7, 10, 11, 12, 13, 14, 15, 16, 17, 18, 19, 20, 21] (fun q => [(5, .slice q.2.1 (looseL o (l.take q.1)).length q.2.2), (10, .int .i64 (q.1 : Nat))]) (fun q w => q.1 ≤ l.length ∧ Mem g w (own (.slice q.2.1 (looseL o (l.take q.1)).length q.2.2) (intsL (looseL o (l.take q.1))) :: L)) (fun q => l.length - q.1) ((0, (none, 0))) ?_ ?_ ?_
  · exact ⟨rfl, rfl, trivial⟩
  · exact ⟨Nat.zero_le _, hs⟩
  clear hs
  rintro x ξ w hI
  obtain ⟨k, s⟩ := x
  obtain ⟨hk, hs⟩ := hI
  simp only at hk hs
  show cw _ _ _ _ _ _ (updL (mix _ ξ _) [(5, .slice s.1 (looseL o (l.take k)).length s.2), (10, .int .i64 (k : Nat))]) w
  refine cw_seq ?_
  refine cw_region ?_
  refine lw_val rfl (run_lss rfl rfl) ?_
  refine lw_nil ?_
  refine cw_seq ?_
  refine cw_if rfl ?_ ?_
  · intro h11
    have g11 := of_decide_eq_true h11
    obtain ⟨y, hy⟩ : ∃ y, l[k]? = some y := ⟨_, List.getElem?_eq_getElem (by omega)⟩
    obtain ⟨b1, o1, rfl, _⟩ := hr.cons.cells' hs (by rw [intsL_len]; omega)
    have hnx := loose_next (o := o) hy
    have hol := loose_len o (l.take k)
    refine cw_skip ?_
    refine cw_seq ?_
    refine cw_block ?_
    refine cw_seq ?_
    refine cw_region ?_
    refine lw_val rfl (run_indexAddr Tryz.underlying22 sz3 rfl rfl rfl (by omega) rfl) ?_
    refine lw_val rfl (run_load Tryz.underlying3 rfl rfl (hr.cons.cellAt hs (intsL_at hy))) ?_
    refine lw_val rfl (run_assign (v := .int .i64 _) rfl) ?_
    refine lw_nil ?_
    refine cw_seq ?_
    refine cw_region ?_
    refine lw_val rfl (run_move (v := .int .i64 _) rfl) ?_
    refine lw_val rfl (run_move (v := .int .i64 _) rfl) ?_
    refine lw_val rfl (run_nei rfl rfl) ?_
    refine lw_nil ?_
    refine cw_if rfl ?_ ?_
    · intro h16
      have g16 := ne_t h16
      refine cw_region ?_
      refine lw_val rfl (run_move (v := .slice _ _ _) rfl) ?_
      refine lw_val rfl (run_move (v := .int .i64 _) rfl) ?_
      refine lw_buildSlice hs rfl ([.int .i64 y]) Tryz.underlying22 zs3 rfl (by simp [Value.cells]) rfl rfl rfl ?_
      clear hs
      intro b19 w hs
      try simp only [List.set_cons_succ, List.set_cons_zero] at hs
      refine lw_append hs rfl 1 rfl Tryz.underlying22 in3 rfl rfl rfl (src_of_seq (P := Tryz.prog) Tryz.underlying22 ((Rd.cells (n := 1) (cs := [.int .i64 y]) 0 rfl rfl).seq hs) (fun u hu => by simp at hu; subst hu; rfl)) (by simp [intsL] at *; omega) (by simp [intsL] at *; omega) ?_
      clear hs
      intro a20 c20 w hs
      simp only [List.set_cons_succ, List.set_cons_zero] at hs
      refine lw_val rfl (run_assign (v := .slice _ _ _) rfl) ?_
      refine lw_nil ?_
      refine cw_region ?_
      refine lw_val rfl (run_add64 rfl rfl rfl (inI (by omega) (by omega))) ?_
      refine lw_val rfl (run_move (v := .int .i64 _) rfl) ?_
      refine lw_nil ?_
      rw [if_neg g16] at hnx
      exact ⟨(k + 1, (a20, c20)), by simp only; omega, ⟨by simp only; omega, by simp only [hnx, intsL_app, List.length_append, List.length_cons, List.length_nil]; have h3 := hs.tail; rw [intsL_len] at h3; exact h3⟩, ⟨by simp only [hnx, List.length_append, intsL_len]; rfl, rfl, trivial⟩, by repeat (first | exact Out.mix _ _ _ | refine Out.updo rfl ?_ | refine Out.upd rfl ?_ | refine Out.mixIn rfl ?_)⟩
    · intro h16
      have g16 := ne_f h16
      refine cw_skip ?_
      refine cw_region ?_
      refine lw_val rfl (run_add64 rfl rfl rfl (inI (by omega) (by omega))) ?_
      refine lw_val rfl (run_move (v := .int .i64 _) rfl) ?_
      refine lw_nil ?_
      rw [if_pos g16] at hnx
      exact ⟨(k + 1, s), by simp only; omega, ⟨by simp only; omega, by simp only [hnx, List.append_nil]; exact hs⟩, ⟨by simp only [hnx, List.append_nil]; rfl, rfl, trivial⟩, by repeat (first | exact Out.mix _ _ _ | refine Out.updo rfl ?_ | refine Out.upd rfl ?_ | refine Out.mixIn rfl ?_)⟩
  · intro h11
    have g11 := of_decide_eq_false h11
    refine cw_exit rfl ?_
    refine cw_seq ?_
    refine cw_region ?_
    refine lw_val rfl (run_move (v := .slice _ _ _) rfl) ?_
    refine lw_val rfl (run_assign (v := .slice _ _ _) rfl) ?_
    refine lw_nil ?_
    refine cw_ret ?_
    refine res1 (v := .slice _ _ _) rfl rfl ?_
    have e : k = l.length := by omega
    subst e
    rw [List.take_length] at hs ⊢
    exact ⟨_, rfl, s, rfl, hs⟩
/-- The names that a list of numbers asks for. -/
def bOther : ByteArray := ⟨#[115, 101, 103, 45, 111, 116, 104, 101, 114]⟩
def kindB (q : Nat) : ByteArray := if q = 0 then bData else bMarks
def askN (z : Int) : ByteArray := if z.tmod 11 = 0 then bOther else objNm (z % (6 : Nat)).toNat (kindB (IntKind.i64.wrap (z.tdiv 6) % (2 : Nat)).toNat) (10 * (z % (6 : Nat)).toNat)
/-- Whose name it is. -/
theorem other_fresh : ∀ i, i < 6 → ∀ q, q < 2 → objNm i (kindB q) (10 * i) ≠ bOther := by decide +kernel
theorem aget_made (l : List Int) (i : Nat) : ∀ n, aget (madeV l n) (i : Int) = if i < n ∧ stN l i ≠ 0 then some ⟨(stN l i : Nat), oneM i (10 * i)⟩ else none
  | 0 => by simp [madeV, aget]
  | n + 1 => by
    rw [madeV_next]
    have ih := aget_made l i n
    by_cases h0 : stN l n = 0
    · rw [if_pos h0, List.append_nil, ih]
      by_cases h : i < n
      · simp [h, show i < n + 1 by omega]
      · by_cases e : i = n
        · subst e; simp [h0]
        · simp [h, show ¬ i < n + 1 by omega]
    · rw [if_neg h0, ← al_end (madeV_fresh l n)]
      by_cases e : i = n
      · subst e; rw [aget_put_same]; simp [h0]
      · rw [aget_put_other _ _ (by omega), ih]
        by_cases h : i < n
        · simp [h, show i < n + 1 by omega]
        · simp [h, show ¬ i < n + 1 by omega]
theorem state_made (l : List Int) (i : Nat) : (madeV l 4).state i = if i < 4 then ((stN l i : Nat) : Int) else 0 := by
  rw [Vw.state, aget_made]
  by_cases h : i < 4
  · by_cases h0 : stN l i = 0
    · simp [h, h0]
    · simp [h, h0]
  · simp [h]
theorem refers_other (l : List Int) : (madeV l 4).refers bOther = false := by
  refine Bool.eq_false_iff.2 fun h => ?_
  obtain ⟨x, hx, hr⟩ := Vw.refers_iff.1 h
  obtain ⟨j, hj, hx⟩ := List.mem_filterMap.1 hx
  have hj := List.mem_range.1 hj
  split at hx
  · cases hx
  · cases hx
    simp only [refersB, Bool.and_eq_true] at hr
    obtain ⟨u, hu, he⟩ := List.any_eq_true.1 hr.2
    have he := of_decide_eq_true he
    have h0 := other_fresh j (by omega) 0 (by decide)
    have h1 := other_fresh j (by omega) 1 (by decide)
    simp only [Mf.names, oneM, List.map_cons, List.map_nil, List.mem_cons, List.not_mem_nil, or_false] at hu
    rcases hu with rfl | rfl
    · exact h0 he
    · exact h1 he
theorem refers_obj (l : List Int) {i q : Nat} (hi : i < 6) (hq : q < 2) : (madeV l 4).refers (objNm i (kindB q) (10 * i)) = true ↔ i < 4 ∧ (stN l i = 1 ∨ stN l i = 2) := by
  rw [Vw.refers_iff]
  constructor
  · rintro ⟨x, hx, hr⟩
    obtain ⟨j, hj, hx⟩ := List.mem_filterMap.1 hx
    have hj := List.mem_range.1 hj
    split at hx
    · cases hx
    · cases hx
      simp only [refersB, Bool.and_eq_true, Bool.or_eq_true, decide_eq_true_eq] at hr
      obtain ⟨u, hu, he⟩ := List.any_eq_true.1 hr.2
      have he := of_decide_eq_true he
      have hn := names23 i hi j (by omega)
      have hn2 := names23 j (by omega) i hi
      have hij : i = j := by
        simp only [Mf.names, oneM, List.map_cons, List.map_nil, List.mem_cons, List.not_mem_nil, or_false] at hu
        obtain rfl | rfl : q = 0 ∨ q = 1 := by omega
        · rcases hu with rfl | rfl
          · exact hn.2.1 he.symm
          · exact absurd he.symm hn.1
        · rcases hu with rfl | rfl
          · exact absurd he hn2.1
          · exact hn.2.2 he.symm
      subst hij
      exact ⟨hj, by have := hr.1; omega⟩
  · rintro ⟨h4, hs⟩
    refine ⟨((i : Int), ⟨(stN l i : Nat), oneM i (10 * i)⟩), List.mem_filterMap.2 ⟨i, List.mem_range.2 h4, by rw [if_neg (by omega)]⟩, ?_⟩
    simp only [refersB, Bool.and_eq_true, Bool.or_eq_true, decide_eq_true_eq]
    refine ⟨by omega, List.any_eq_true.2 ⟨objNm i (kindB q) (10 * i), ?_, decide_eq_true rfl⟩⟩
    simp only [Mf.names, oneM, List.map_cons, List.map_nil, List.mem_cons, List.not_mem_nil, or_false]
    obtain rfl | rfl : q = 0 ∨ q = 1 := by omega
    · exact .inl rfl
    · exact .inr rfl
theorem orph_obj (l : List Int) {i q : Nat} (hi : i < 6) (hq : q < 2) : (madeV l 4).refers (objNm i (kindB q) (10 * i)) = false ↔ ¬ ((madeV l 4).state i = 1 ∨ (madeV l 4).state i = 2) := by
  rw [← Bool.not_eq_true, refers_obj l hi hq, state_made]
  by_cases h : i < 4
  · simp only [h, true_and, if_true]; omega
  · simp only [h, false_and, if_false]; simp
end Go.Proofs.YtkogkokmcmallaaGreatDoor
