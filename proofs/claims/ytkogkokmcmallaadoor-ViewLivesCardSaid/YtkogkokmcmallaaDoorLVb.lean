/- The law ViewLives: segments go through their states. -/
import Derived.Test.YtkogkokmcmallaaDoorLVa
import Derived.Test.YtkogkokmcmallaaDoorMi
import Derived.Test.YtkogkokmcmallaaDoorSv
namespace Go.Proofs.YtkogkokmcmallaaDoor
set_option linter.all false
open Go.RowKit
attribute [local irreducible] errV
variable {g w : World} {L M : List HP} {ad : Nat → Addr} {p : Nat} {V : Vw}

def bL (id : Nat) : Nat := 30 - 5 * id
/-- The four states. -/
def stL (V : Vw) : List Int := [V.state 0, V.state 1, V.state 2, V.state 3]
theorem stL_at (V : Vw) {id : Nat} (h : id < 4) : (stL V)[id]? = some (V.state (id : Int)) := by
  obtain rfl | rfl | rfl | rfl : id = 0 ∨ id = 1 ∨ id = 2 ∨ id = 3 := by omega
  all_goals rfl
theorem state_other (V : Vw) {i j : Nat} (a : Itm) (h : j ≠ i) : Vw.state (aput V (i : Int) a) (j : Int) = V.state (j : Int) := by simp only [Vw.state]; rw [aget_put_other _ _ (by omega)]
theorem stL_put (V : Vw) {id : Nat} (h : id < 4) (a : Itm) : stL (aput V (id : Int) a) = (stL V).set id a.st := by
  refine List.ext_getElem? fun j => ?_
  by_cases hj : j < 4
  · rw [stL_at _ hj, List.getElem?_set]
    by_cases e : id = j
    · subst e; rw [if_pos rfl, state_put, if_pos (by simp only [stL, List.length_cons, List.length_nil]; omega)]
    · rw [if_neg e, stL_at _ hj, state_other _ _ (fun h => e h.symm)]
  · rw [List.getElem?_eq_none (by simp only [stL, List.length_cons, List.length_nil]; omega), List.getElem?_eq_none (by simp only [stL, List.length_set, List.length_cons, List.length_nil]; omega)]
theorem namesL : ∀ i, i < 4 → ∀ j, j < 4 → (objNm i bMarks (30 - 5 * i) ≠ objNm j bData (30 - 5 * j)) ∧ (objNm i bMarks (30 - 5 * i) = objNm j bMarks (30 - 5 * j) → i = j) := by decide +kernel
theorem bL_falls : ∀ i j, i < 4 → j < 4 → i < j → bL j < bL i := fun i j h1 h2 h3 => by simp only [bL]; omega
/-- Who refers to an object: its segment alone. -/
theorem refersL (h : OnV bL 4 V) {k : Nat} (hk : k < 4) : V.refers (objNm k bMarks (30 - 5 * k)) = (decide (V.state (k : Int) = 1) || decide (V.state (k : Int) = 2)) := by
  refine Bool.eq_iff_iff.2 ⟨fun hr => ?_, fun hst => ?_⟩
  · obtain ⟨x, hx, hr⟩ := Vw.refers_iff.1 hr
    obtain ⟨id, h1, h2, h3, _⟩ := h.mem hx
    simp only [refersB, Bool.and_eq_true] at hr
    obtain ⟨u, hu, he⟩ := List.any_eq_true.1 hr.2
    have he := of_decide_eq_true he
    rw [h3] at hu
    simp only [Mf.names, oneM, List.map_cons, List.map_nil, List.mem_cons, List.not_mem_nil, or_false] at hu
    have hn := namesL k hk id h1
    rcases hu with rfl | rfl
    · exact absurd he.symm hn.1
    · obtain rfl := hn.2 he.symm
      have hV := mem_aget h.nd hx
      rw [h2] at hV
      simp only [Vw.state, hV, Option.elim]
      exact hr.1
  · cases hV : aget V (k : Int) with
    | none => simp [Vw.state, hV] at hst
    | some i =>
      obtain ⟨id, h1, h2, h3, _⟩ := h.all _ _ hV
      obtain rfl : k = id := by omega
      refine Vw.refers_iff.2 ⟨_, aget_mem hV, ?_⟩
      simp only [Vw.state, hV, Option.elim] at hst
      simp only [refersB, hst, Bool.true_and]
      rw [h3]
      exact List.any_eq_true.2 ⟨objNm k bMarks (30 - 5 * k), by simp [Mf.names, oneM, bL], decide_eq_true rfl⟩
def cntS (V : Vw) (k : Nat) : Nat := ((List.range k).filter fun i : Nat => decide (V.state (i : Int) = 2)).length
theorem cntS_next (V : Vw) (k : Nat) : cntS V (k + 1) = cntS V k + if V.state (k : Int) = 2 then 1 else 0 := by
  rw [cntS, List.range_succ, List.filter_append, List.length_append, cntS]
  congr 1
  by_cases h : V.state (k : Int) = 2 <;> simp [h]
theorem cntS_le (V : Vw) (k : Nat) : cntS V k ≤ k := by
  have := List.length_filter_le (fun i : Nat => decide (V.state (i : Int) = 2)) (List.range k)
  simpa [cntS] using this
theorem may_t {s K : Int} (h : K = 1 ∧ s = 0 ∨ K = 2 ∧ s = 1 ∨ K = 3 ∧ (s = 1 ∨ s = 2) ∨ K = 4 ∧ s = 3) : true = nextB s K := by
  rcases h with ⟨rfl, rfl⟩ | ⟨rfl, rfl⟩ | ⟨rfl, rfl | rfl⟩ | ⟨rfl, rfl⟩ <;> rfl
theorem may_f {s K : Int} (h : ¬ (K = 1 ∧ s = 0 ∨ K = 2 ∧ s = 1 ∨ K = 3 ∧ (s = 1 ∨ s = 2) ∨ K = 4 ∧ s = 3)) : false = nextB s K := by
  unfold nextB
  split
  · exact (decide_eq_false (by omega)).symm
  · split
    · exact (decide_eq_false (by omega)).symm
    · split
      · rw [decide_eq_false (by omega), decide_eq_false (by omega)]; rfl
      · split
        · exact (decide_eq_false (by omega)).symm
        · rfl
theorem may_4 {s K : Int} (h : K = 4) : decide (s = 3) = nextB s K := by subst h; rfl
set_option maxHeartbeats 8000000 in
set_option maxRecDepth 10000 in
theorem viewLives_sl (hA : ErrA ad g) (hs : Mem g w []) {a0 : Option Addr} {n0 c0 : Nat} {l : List Int} (h0 : Came g (.slice a0 n0 c0) (intsL l)) (e0 : n0 = l.length) : Calls Tryd.prog 6 #[.slice a0 n0 c0] w (Ret fun v w' => v = .bool true ∧ Mem g w' []) := by
  subst e0
  have hE : ErrV ad g := hA.view
  refine calls_cw Tryd.func6 rfl rfl ?_
  skip
  refine cw_seq ?_
  refine cw_region ?_
  first | refine lw_val rfl (run_assign (v := .bool _) rfl) ?_
  refine lw_nil ?_
  refine cw_seq ?_
  refine cw_region ?_
  refine lw_call rfl en19 (first16_sl hA hs) ?_
  clear hs
  rintro _ w ⟨rfl, hs⟩
  first | refine lw_val rfl (run_assign (v := .bool _) rfl) ?_
  refine lw_nil ?_
  refine cw_seq ?_
  refine cw_seq ?_
  refine cw_region ?_
  first | refine lw_val rfl (run_move (v := .bool _) rfl) ?_
  refine lw_val rfl (run_not rfl) ?_
  refine lw_nil ?_
  refine cw_iff rfl (not_f (rfl)) ?_
  refine cw_skip ?_
  refine cw_seq ?_
  refine cw_seq ?_
  refine cw_region ?_
  first | refine lw_val rfl (run_move (v := .slice _ _ _) rfl) ?_
  refine lw_val rfl (run_lenS Tryd.underlying22 rfl) ?_
  refine lw_val rfl (run_gtr rfl rfl) ?_
  first | refine lw_val rfl (run_move (v := .bool _) rfl) ?_
  refine lw_split (t := _) (d := 22) rfl ?_ ?_
  · intro h21
    have g21 := of_decide_eq_true h21
    refine lw_off rfl rfl rfl h21 ?_
    refine lw_off rfl rfl rfl h21 ?_
    first | refine lw_val rfl (run_pickT (v := .bool _) rfl h21 rfl) ?_
    refine lw_nil ?_
    refine cw_ift rfl rfl ?_
    refine cw_seq ?_
    refine cw_region ?_
    first | refine lw_val rfl (run_move (v := .bool _) rfl) ?_
    first | refine lw_val rfl (run_assign (v := .bool _) rfl) ?_
    refine lw_nil ?_
    refine cw_ret ?_
    refine res1 (v := .bool _) rfl rfl ?_
    exact ⟨_, rfl, rfl, hs⟩
  · intro h21
    have g21 := of_decide_eq_false h21
    refine lw_on rfl rfl h21 ?_
    first | refine lw_val rfl (run_move (v := .bool _) rfl) ?_
    refine lw_on rfl rfl h21 ?_
    refine lw_val rfl (run_not rfl) ?_
    first | refine lw_val rfl (run_pickF (v := .bool _) rfl h21 rfl) ?_
    refine lw_nil ?_
    refine cw_iff rfl (not_f (rfl)) ?_
    refine cw_skip ?_
    refine cw_seq ?_
    refine cw_region ?_
    refine lw_call rfl en20 (newv_sl hs) ?_
    clear hs
    rintro _ w ⟨p, rfl, hs⟩
    first | refine lw_val rfl (run_assign (v := .pointer (some _)) rfl) ?_ | refine lw_val rfl (run_assign (v := .pointer none) rfl) ?_ | refine lw_val rfl (run_assign (v := .pointer _) rfl) ?_
    refine lw_nil ?_
    refine cw_seq ?_
    refine cw_seq ?_
    refine cw_region ?_
    first | refine lw_val rfl (run_move (v := .pointer (some _)) rfl) ?_ | refine lw_val rfl (run_move (v := .pointer none) rfl) ?_ | refine lw_val rfl (run_move (v := .pointer _) rfl) ?_
    refine lw_val rfl (run_eqpn Tryd.underlying25 rfl rfl) ?_
    refine lw_nil ?_
    refine cw_iff rfl (rfl) ?_
    refine cw_skip ?_
    refine cw_seq ?_
    refine cw_region ?_
    refine lw_makeSlice hs rfl Tryd.underlying22 in3 rfl rfl rfl rfl rfl (by decide) (by decide) (by decide) ?_
    clear hs
    intro b30 w hs
    try simp only [List.set_cons_succ, List.set_cons_zero] at hs
    first | refine lw_val rfl (run_assign (v := .slice _ _ _) rfl) ?_
    refine lw_nil ?_
    refine cw_seq ?_
    refine cw_seq ?_
    refine cw_region ?_
    first | refine lw_val rfl (run_assign (v := .int .i64 _) rfl) ?_
    refine lw_nil ?_
    refine cw_block ?_
    refine cw_loop (X := Nat × Vw) [2, 6, 7, 8, 9, 10, 11, 12, 13, 14, 15, 31, 32, 33, 34, 35, 36, 37, 38, 39, 40, 41, 42, 43, 44, 45, 46, 47, 48, 49, 50, 51, 52, 53, 54, 55, 56, 57, 58, 59, 60, 61, 62, 63, 64, 65, 66, 67, 68, 69, 70, 71, 72, 73, 74, 75, 76, 77, 78, 79, 80, 81, 82, 83, 84, 85, 86, 87, 88, 89, 90, 91, 92, 93, 94, 95, 96, 97, 98, 99, 100, 101, 102, 103, 104, 105, 106, 107, 108, 109, 110, 111, 112, 113, 114, 115, 116, 117, 118, 119, 120, 121, 122, 123, 124, 125, 126, 127, 128, 129, 130, 131, 132, 133, 134, 135, 136, 137, 138, 139, 140, 141, 142, 143, 144, 145, 146, 147, 148, 149, 150, 151, 152, 153, 154, 155, 156, 157, 158, 159, 160, 161, 162, 163, 164, 165, 166, 167, 168, 169, 170, 171, 172, 173, 174, 175, 176, 177, 178, 179, 180, 181, 182, 183, 184, 185, 186] (fun q => [(6, .int .i64 (q.1 : Nat))]) (fun q w => q.1 ≤ l.length ∧ OnV bL 4 q.2 ∧ Mem g w [own (.slice (some ⟨b30, 0, none⟩) 4 4) (intsL (stL q.2)), ViewC p q.2]) (fun q => l.length - q.1) ((0, [])) ?_ ?_ ?_
    · exact ⟨rfl, trivial⟩
    · exact ⟨Nat.zero_le _, OnV.nil, hs⟩
    clear hs
    rintro x ξ w hI
    obtain ⟨k, V⟩ := x
    obtain ⟨hk, hO, hs⟩ := hI
    simp only at hk hO hs
    show cw _ _ _ _ _ _ (updL (mix _ ξ _) [(6, .int .i64 (k : Nat))]) w
    refine cw_seq ?_
    refine cw_seq ?_
    refine cw_region ?_
    first | refine lw_val rfl (run_move (v := .int .i64 _) rfl) ?_
    first | refine lw_val rfl (run_move (v := .slice _ _ _) rfl) ?_
    refine lw_val rfl (run_lenS Tryd.underlying22 rfl) ?_
    refine lw_val rfl (run_lss rfl rfl) ?_
    refine lw_nil ?_
    refine cw_if rfl ?_ ?_
    · intro h34
      have g34 := of_decide_eq_true h34
      obtain ⟨z, hz⟩ : ∃ z, l[k]? = some z := ⟨_, List.getElem?_eq_getElem (by omega)⟩
      obtain ⟨b1, o1, rfl, _⟩ := (h0.rd _).cells' hs (by rw [intsL_len]; omega)
      obtain ⟨id, hid⟩ : ∃ id, id = (z % ((4 : Nat) : Int)).toNat := ⟨_, rfl⟩
      have hid4 : id < 4 := by have := Int.emod_lt_of_pos z (show (0 : Int) < (4 : Nat) by decide); have := Int.emod_nonneg z (show ((4 : Nat) : Int) ≠ 0 by decide); omega
      obtain ⟨kd, hkd⟩ : ∃ kd, kd = (IntKind.i64.wrap (z.tdiv 4) % ((4 : Nat) : Int)).toNat := ⟨_, rfl⟩
      have hkd4 : kd < 4 := by have := Int.emod_lt_of_pos (IntKind.i64.wrap (z.tdiv 4)) (show (0 : Int) < (4 : Nat) by decide); have := Int.emod_nonneg (IntKind.i64.wrap (z.tdiv 4)) (show ((4 : Nat) : Int) ≠ 0 by decide); omega
      have hap := hO.apply hid4 (by decide) (oneL id hid4) (k := (kd : Int) + 1) (by omega)
      have hsl := intsL_at (stL_at V hid4)
      refine cw_skip ?_
      refine cw_seq ?_
      refine cw_block ?_
      refine cw_seq ?_
      refine cw_region ?_
      first | refine lw_val rfl (run_move (v := .slice _ _ _) rfl) ?_
      first | refine lw_val rfl (run_move (v := .int .i64 _) rfl) ?_
      refine lw_val rfl (run_indexAddr Tryd.underlying22 sz3 rfl rfl rfl (by omega) rfl) ?_
      refine lw_val rfl (run_load Tryd.underlying3 rfl rfl ((h0.rd _).cellAt hs (intsL_at hz))) ?_
      refine lw_call rfl en14 (numberE_sl hs z 4 (by decide)) ?_
      clear hs
      rintro _ w ⟨rfl, hs⟩
      rw [← hid]
      first | refine lw_val rfl (run_assign (v := .int .i64 _) rfl) ?_
      refine lw_nil ?_
      refine cw_seq ?_
      refine cw_region ?_
      first | refine lw_val rfl (run_move (v := .int .i64 _) rfl) ?_
      first | refine lw_val rfl (run_move (v := .int .i64 _) rfl) ?_
      refine lw_val rfl (run_mul64 rfl rfl (c := ((5 * id : Nat) : Int)) (by omega) (inI (by omega) (by omega))) ?_
      refine lw_val rfl (run_sub64 rfl rfl (c := ((30 - 5 * id : Nat) : Int)) (by omega) (inI (by omega) (by omega))) ?_
      refine lw_call rfl en22 (one16_sl hs id (30 - 5 * id) (by omega) (by omega) (oneL id hid4)) ?_
      clear hs
      rintro _ w ⟨s1, s2, rfl, hs⟩
      refine lw_alloc hs rfl ze39 ?_
      clear hs
      intro b8 w hs
      try simp only [List.set_cons_succ, List.set_cons_zero] at hs
      first | refine lw_storeRow hs 0 rfl rfl rfl sz39 rfl rfl ?_ | refine lw_storeRow hs 1 rfl rfl rfl sz39 rfl rfl ?_ | refine lw_storeRow hs 2 rfl rfl rfl sz39 rfl rfl ?_ | refine lw_storeRow hs 3 rfl rfl rfl sz39 rfl rfl ?_ | refine lw_storeRow hs 4 rfl rfl rfl sz39 rfl rfl ?_ | refine lw_storeRow hs 5 rfl rfl rfl sz39 rfl rfl ?_ | refine lw_storeRow hs 6 rfl rfl rfl sz39 rfl rfl ?_ | refine lw_storeRow hs 7 rfl rfl rfl sz39 rfl rfl ?_ | refine lw_storeRow hs 8 rfl rfl rfl sz39 rfl rfl ?_ | refine lw_storeRow hs 9 rfl rfl rfl sz39 rfl rfl ?_ | refine lw_storeRow hs 10 rfl rfl rfl sz39 rfl rfl ?_ | refine lw_storeRow hs 11 rfl rfl rfl sz39 rfl rfl ?_ | refine lw_storeRow hs 12 rfl rfl rfl sz39 rfl rfl ?_ | refine lw_storeRow hs 13 rfl rfl rfl sz39 rfl rfl ?_
      clear hs
      intro w hs
      try simp only [List.set_cons_succ, List.set_cons_zero] at hs
      refine lw_nil ?_
      refine cw_seq ?_
      refine cw_region ?_
      first | refine lw_val rfl (run_move (v := .slice _ _ _) rfl) ?_
      first | refine lw_val rfl (run_move (v := .int .i64 _) rfl) ?_
      refine lw_val rfl (run_indexAddr Tryd.underlying22 sz3 rfl rfl rfl (by omega) rfl) ?_
      refine lw_val rfl (run_load Tryd.underlying3 rfl rfl ((h0.rd _).cellAt hs (intsL_at hz))) ?_
      refine lw_val rfl (run_quo rfl rfl (by decide)) ?_
      refine lw_call rfl en14 (numberE_sl hs (IntKind.i64.wrap (z.tdiv 4)) 4 (by decide)) ?_
      clear hs
      rintro _ w ⟨rfl, hs⟩
      rw [← hkd]
      refine lw_val rfl (run_add64 rfl rfl (c := (kd : Int) + 1) rfl (inI (by omega) (by omega))) ?_
      first | refine lw_val rfl (run_assign (v := .int .i64 _) rfl) ?_
      refine lw_nil ?_
      refine cw_mid (X := Unit) [10, 54, 55, 56, 57, 58, 59, 60, 61, 62, 63, 64, 65, 66, 67, 68, 69, 70, 71, 72, 73, 74, 75, 76, 77, 78, 79, 80, 81, 82, 83, 84, 85, 86, 87, 88, 89, 90, 91, 92, 93, 94, 95, 96, 97, 98, 99, 100, 101, 102] (fun _ => [(10, .bool (nextB (V.state (id : Int)) ((kd : Int) + 1)))]) (fun _ w => Mem g w (cells b8 (mfL (oneM id (30 - 5 * id)) s1 s2) 39 :: (mfP (oneM id (30 - 5 * id)) s1 s2 ++ [own (.slice (some ⟨b30, 0, none⟩) 4 4) (intsL (stL V)), ViewC p V]))) ?_ ?_
      · skip
        refine cw_region ?_
        first | refine lw_val rfl (run_move (v := .int .i64 _) rfl) ?_
        refine lw_val rfl (run_eqi rfl rfl) ?_
        first | refine lw_val rfl (run_move (v := .bool _) rfl) ?_
        refine lw_split (t := _) (d := 56) rfl ?_ ?_
        · intro h55
          have g55 := of_decide_eq_true h55
          refine lw_on rfl rfl h55 ?_
          first | refine lw_val rfl (run_move (v := .slice _ _ _) rfl) ?_
          refine lw_on rfl rfl h55 ?_
          first | refine lw_val rfl (run_move (v := .int .i64 _) rfl) ?_
          refine lw_on rfl rfl h55 ?_
          refine lw_val rfl (run_indexAddr Tryd.underlying22 sz3 rfl rfl (i := id) rfl (by omega) rfl) ?_
          refine lw_on rfl rfl h55 ?_
          refine lw_val rfl (run_load Tryd.underlying3 rfl rfl (hs.ownAt 3 rfl hsl)) ?_
          refine lw_on rfl rfl h55 ?_
          refine lw_val rfl (run_eqi rfl rfl) ?_
          first | refine lw_val rfl (run_pickT (v := .bool _) rfl h55 rfl) ?_
          first | refine lw_val rfl (run_move (v := .bool _) rfl) ?_
          refine lw_split (t := _) (d := 63) rfl ?_ ?_
          · intro h61
            have g61 := of_decide_eq_true h61
            refine lw_off rfl rfl rfl h61 ?_
            refine lw_off rfl rfl rfl h61 ?_
            refine lw_off rfl rfl rfl h61 ?_
            refine lw_offU rfl rfl rfl ?_
            refine lw_offU rfl rfl rfl ?_
            refine lw_offU rfl rfl rfl ?_
            refine lw_offU rfl rfl rfl ?_
            refine lw_offU rfl rfl rfl ?_
            refine lw_off rfl rfl rfl h61 ?_
            first | refine lw_val rfl (run_pickT (v := .bool _) rfl h61 rfl) ?_
            first | refine lw_val rfl (run_move (v := .bool _) rfl) ?_
            refine lw_off rfl rfl rfl rfl ?_
            refine lw_off rfl rfl rfl rfl ?_
            refine lw_off rfl rfl rfl rfl ?_
            refine lw_offU rfl rfl rfl ?_
            refine lw_offU rfl rfl rfl ?_
            refine lw_offU rfl rfl rfl ?_
            refine lw_offU rfl rfl rfl ?_
            refine lw_offU rfl rfl rfl ?_
            refine lw_offU rfl rfl rfl ?_
            refine lw_offU rfl rfl rfl ?_
            refine lw_offU rfl rfl rfl ?_
            refine lw_offU rfl rfl rfl ?_
            refine lw_offU rfl rfl rfl ?_
            refine lw_offU rfl rfl rfl ?_
            refine lw_offU rfl rfl rfl ?_
            refine lw_off rfl rfl rfl rfl ?_
            first | refine lw_val rfl (run_pickT (v := .bool _) rfl rfl rfl) ?_
            first | refine lw_val rfl (run_move (v := .bool _) rfl) ?_
            refine lw_off rfl rfl rfl rfl ?_
            refine lw_off rfl rfl rfl rfl ?_
            refine lw_off rfl rfl rfl rfl ?_
            refine lw_offU rfl rfl rfl ?_
            refine lw_offU rfl rfl rfl ?_
            refine lw_offU rfl rfl rfl ?_
            refine lw_offU rfl rfl rfl ?_
            refine lw_offU rfl rfl rfl ?_
            refine lw_off rfl rfl rfl rfl ?_
            first | refine lw_val rfl (run_pickT (v := .bool _) rfl rfl rfl) ?_
            first | refine lw_val rfl (run_assign (v := .bool _) rfl) ?_
            refine lw_nil ?_
            refine ⟨(), hs, ⟨Eq.trans (b := Value.bool _) rfl (ret_b ?_), trivial⟩, by repeat (first | with_reducible exact Out.refl _ _ | refine Out.updo rfl ?_ | refine Out.upd rfl ?_ | refine Out.mixIn rfl ?_)⟩
            first | exact may_t (by omega) | exact may_4 (by omega) | exact may_f (by omega)
          · intro h61
            have g61 := of_decide_eq_false h61
            refine lw_on rfl rfl h61 ?_
            first | refine lw_val rfl (run_move (v := .int .i64 _) rfl) ?_
            refine lw_on rfl rfl h61 ?_
            refine lw_val rfl (run_eqi rfl rfl) ?_
            refine lw_on rfl rfl h61 ?_
            first | refine lw_val rfl (run_move (v := .bool _) rfl) ?_
            refine lw_split (t := _) (d := 66) rfl ?_ ?_
            · intro h65
              have g65 := of_decide_eq_true h65
              refine lw_on rfl rfl h65 ?_
              first | refine lw_val rfl (run_move (v := .slice _ _ _) rfl) ?_
              refine lw_on rfl rfl h65 ?_
              first | refine lw_val rfl (run_move (v := .int .i64 _) rfl) ?_
              refine lw_on rfl rfl h65 ?_
              refine lw_val rfl (run_indexAddr Tryd.underlying22 sz3 rfl rfl (i := id) rfl (by omega) rfl) ?_
              refine lw_on rfl rfl h65 ?_
              refine lw_val rfl (run_load Tryd.underlying3 rfl rfl (hs.ownAt 3 rfl hsl)) ?_
              refine lw_on rfl rfl h65 ?_
              refine lw_val rfl (run_eqi rfl rfl) ?_
              refine lw_on rfl rfl h61 ?_
              first | refine lw_val rfl (run_pickT (v := .bool _) rfl h65 rfl) ?_
              first | refine lw_val rfl (run_pickF (v := .bool _) rfl h61 rfl) ?_
              first | refine lw_val rfl (run_move (v := .bool _) rfl) ?_
              refine lw_split (t := _) (d := 74) rfl ?_ ?_
              · intro h71
                have g71 := of_decide_eq_true h71
                refine lw_off rfl rfl rfl h71 ?_
                refine lw_off rfl rfl rfl h71 ?_
                refine lw_off rfl rfl rfl h71 ?_
                refine lw_offU rfl rfl rfl ?_
                refine lw_offU rfl rfl rfl ?_
                refine lw_offU rfl rfl rfl ?_
                refine lw_offU rfl rfl rfl ?_
                refine lw_offU rfl rfl rfl ?_
                refine lw_offU rfl rfl rfl ?_
                refine lw_offU rfl rfl rfl ?_
                refine lw_offU rfl rfl rfl ?_
                refine lw_offU rfl rfl rfl ?_
                refine lw_offU rfl rfl rfl ?_
                refine lw_offU rfl rfl rfl ?_
                refine lw_offU rfl rfl rfl ?_
                refine lw_off rfl rfl rfl h71 ?_
                first | refine lw_val rfl (run_pickT (v := .bool _) rfl h71 rfl) ?_
                first | refine lw_val rfl (run_move (v := .bool _) rfl) ?_
                refine lw_off rfl rfl rfl rfl ?_
                refine lw_off rfl rfl rfl rfl ?_
                refine lw_off rfl rfl rfl rfl ?_
                refine lw_offU rfl rfl rfl ?_
                refine lw_offU rfl rfl rfl ?_
                refine lw_offU rfl rfl rfl ?_
                refine lw_offU rfl rfl rfl ?_
                refine lw_offU rfl rfl rfl ?_
                refine lw_off rfl rfl rfl rfl ?_
                first | refine lw_val rfl (run_pickT (v := .bool _) rfl rfl rfl) ?_
                first | refine lw_val rfl (run_assign (v := .bool _) rfl) ?_
                refine lw_nil ?_
                refine ⟨(), hs, ⟨Eq.trans (b := Value.bool _) rfl (ret_b ?_), trivial⟩, by repeat (first | with_reducible exact Out.refl _ _ | refine Out.updo rfl ?_ | refine Out.upd rfl ?_ | refine Out.mixIn rfl ?_)⟩
                first | exact may_t (by omega) | exact may_4 (by omega) | exact may_f (by omega)
              · intro h71
                have g71 := of_decide_eq_false h71
                refine lw_on rfl rfl h71 ?_
                first | refine lw_val rfl (run_move (v := .int .i64 _) rfl) ?_
                refine lw_on rfl rfl h71 ?_
                refine lw_val rfl (run_eqi rfl rfl) ?_
                refine lw_on rfl rfl h71 ?_
                first | refine lw_val rfl (run_move (v := .bool _) rfl) ?_
                refine lw_split (t := _) (d := 77) rfl ?_ ?_
                · intro h76
                  have g76 := of_decide_eq_true h76
                  refine lw_on rfl rfl h76 ?_
                  first | refine lw_val rfl (run_move (v := .slice _ _ _) rfl) ?_
                  refine lw_on rfl rfl h76 ?_
                  first | refine lw_val rfl (run_move (v := .int .i64 _) rfl) ?_
                  refine lw_on rfl rfl h76 ?_
                  refine lw_val rfl (run_indexAddr Tryd.underlying22 sz3 rfl rfl (i := id) rfl (by omega) rfl) ?_
                  refine lw_on rfl rfl h76 ?_
                  refine lw_val rfl (run_load Tryd.underlying3 rfl rfl (hs.ownAt 3 rfl hsl)) ?_
                  refine lw_on rfl rfl h76 ?_
                  refine lw_val rfl (run_eqi rfl rfl) ?_
                  refine lw_on rfl rfl h76 ?_
                  first | refine lw_val rfl (run_move (v := .bool _) rfl) ?_
                  refine lw_split (t := _) (d := 83) rfl ?_ ?_
                  · intro h82
                    have g82 := of_decide_eq_true h82
                    refine lw_off rfl rfl rfl h82 ?_
                    refine lw_off rfl rfl rfl h82 ?_
                    refine lw_off rfl rfl rfl h82 ?_
                    refine lw_off rfl rfl rfl h82 ?_
                    refine lw_off rfl rfl rfl h82 ?_
                    refine lw_on rfl rfl h76 ?_
                    first | refine lw_val rfl (run_pickT (v := .bool _) rfl h82 rfl) ?_
                    refine lw_on rfl rfl h71 ?_
                    first | refine lw_val rfl (run_pickT (v := .bool _) rfl h76 rfl) ?_
                    first | refine lw_val rfl (run_pickF (v := .bool _) rfl h71 rfl) ?_
                    first | refine lw_val rfl (run_move (v := .bool _) rfl) ?_
                    refine lw_off rfl rfl rfl rfl ?_
                    refine lw_off rfl rfl rfl rfl ?_
                    refine lw_off rfl rfl rfl rfl ?_
                    refine lw_offU rfl rfl rfl ?_
                    refine lw_offU rfl rfl rfl ?_
                    refine lw_offU rfl rfl rfl ?_
                    refine lw_offU rfl rfl rfl ?_
                    refine lw_offU rfl rfl rfl ?_
                    refine lw_off rfl rfl rfl rfl ?_
                    first | refine lw_val rfl (run_pickT (v := .bool _) rfl rfl rfl) ?_
                    first | refine lw_val rfl (run_assign (v := .bool _) rfl) ?_
                    refine lw_nil ?_
                    refine ⟨(), hs, ⟨Eq.trans (b := Value.bool _) rfl (ret_b ?_), trivial⟩, by repeat (first | with_reducible exact Out.refl _ _ | refine Out.updo rfl ?_ | refine Out.upd rfl ?_ | refine Out.mixIn rfl ?_)⟩
                    first | exact may_t (by omega) | exact may_4 (by omega) | exact may_f (by omega)
                  · intro h82
                    have g82 := of_decide_eq_false h82
                    refine lw_on rfl rfl h82 ?_
                    first | refine lw_val rfl (run_move (v := .slice _ _ _) rfl) ?_
                    refine lw_on rfl rfl h82 ?_
                    first | refine lw_val rfl (run_move (v := .int .i64 _) rfl) ?_
                    refine lw_on rfl rfl h82 ?_
                    refine lw_val rfl (run_indexAddr Tryd.underlying22 sz3 rfl rfl (i := id) rfl (by omega) rfl) ?_
                    refine lw_on rfl rfl h82 ?_
                    refine lw_val rfl (run_load Tryd.underlying3 rfl rfl (hs.ownAt 3 rfl hsl)) ?_
                    refine lw_on rfl rfl h82 ?_
                    refine lw_val rfl (run_eqi rfl rfl) ?_
                    refine lw_on rfl rfl h76 ?_
                    first | refine lw_val rfl (run_pickF (v := .bool _) rfl h82 rfl) ?_
                    refine lw_on rfl rfl h71 ?_
                    first | refine lw_val rfl (run_pickT (v := .bool _) rfl h76 rfl) ?_
                    first | refine lw_val rfl (run_pickF (v := .bool _) rfl h71 rfl) ?_
                    first | refine lw_val rfl (run_move (v := .bool _) rfl) ?_
                    refine lw_split (t := _) (d := 92) rfl ?_ ?_
                    · intro h88
                      have g88 := of_decide_eq_true h88
                      refine lw_off rfl rfl rfl h88 ?_
                      refine lw_off rfl rfl rfl h88 ?_
                      refine lw_off rfl rfl rfl h88 ?_
                      refine lw_offU rfl rfl rfl ?_
                      refine lw_offU rfl rfl rfl ?_
                      refine lw_offU rfl rfl rfl ?_
                      refine lw_offU rfl rfl rfl ?_
                      refine lw_offU rfl rfl rfl ?_
                      refine lw_off rfl rfl rfl h88 ?_
                      first | refine lw_val rfl (run_pickT (v := .bool _) rfl h88 rfl) ?_
                      first | refine lw_val rfl (run_assign (v := .bool _) rfl) ?_
                      refine lw_nil ?_
                      refine ⟨(), hs, ⟨Eq.trans (b := Value.bool _) rfl (ret_b ?_), trivial⟩, by repeat (first | with_reducible exact Out.refl _ _ | refine Out.updo rfl ?_ | refine Out.upd rfl ?_ | refine Out.mixIn rfl ?_)⟩
                      first | exact may_t (by omega) | exact may_4 (by omega) | exact may_f (by omega)
                    · intro h88
                      have g88 := of_decide_eq_false h88
                      refine lw_on rfl rfl h88 ?_
                      first | refine lw_val rfl (run_move (v := .int .i64 _) rfl) ?_
                      refine lw_on rfl rfl h88 ?_
                      refine lw_val rfl (run_eqi rfl rfl) ?_
                      refine lw_on rfl rfl h88 ?_
                      first | refine lw_val rfl (run_move (v := .bool _) rfl) ?_
                      refine lw_split (t := _) (d := 95) rfl ?_ ?_
                      · intro h94
                        have g94 := of_decide_eq_true h94
                        refine lw_on rfl rfl h94 ?_
                        first | refine lw_val rfl (run_move (v := .slice _ _ _) rfl) ?_
                        refine lw_on rfl rfl h94 ?_
                        first | refine lw_val rfl (run_move (v := .int .i64 _) rfl) ?_
                        refine lw_on rfl rfl h94 ?_
                        refine lw_val rfl (run_indexAddr Tryd.underlying22 sz3 rfl rfl (i := id) rfl (by omega) rfl) ?_
                        refine lw_on rfl rfl h94 ?_
                        refine lw_val rfl (run_load Tryd.underlying3 rfl rfl (hs.ownAt 3 rfl hsl)) ?_
                        refine lw_on rfl rfl h94 ?_
                        refine lw_val rfl (run_eqi rfl rfl) ?_
                        refine lw_on rfl rfl h88 ?_
                        first | refine lw_val rfl (run_pickT (v := .bool _) rfl h94 rfl) ?_
                        first | refine lw_val rfl (run_pickF (v := .bool _) rfl h88 rfl) ?_
                        first | refine lw_val rfl (run_assign (v := .bool _) rfl) ?_
                        refine lw_nil ?_
                        refine ⟨(), hs, ⟨Eq.trans (b := Value.bool _) rfl (ret_b ?_), trivial⟩, by repeat (first | with_reducible exact Out.refl _ _ | refine Out.updo rfl ?_ | refine Out.upd rfl ?_ | refine Out.mixIn rfl ?_)⟩
                        first | exact may_t (by omega) | exact may_4 (by omega) | exact may_f (by omega)
                      · intro h94
                        have g94 := of_decide_eq_false h94
                        refine lw_off rfl rfl rfl h94 ?_
                        refine lw_off rfl rfl rfl h94 ?_
                        refine lw_off rfl rfl rfl h94 ?_
                        refine lw_off rfl rfl rfl h94 ?_
                        refine lw_off rfl rfl rfl h94 ?_
                        refine lw_on rfl rfl h88 ?_
                        first | refine lw_val rfl (run_pickF (v := .bool _) rfl h94 rfl) ?_
                        first | refine lw_val rfl (run_pickF (v := .bool _) rfl h88 rfl) ?_
                        first | refine lw_val rfl (run_assign (v := .bool _) rfl) ?_
                        refine lw_nil ?_
                        refine ⟨(), hs, ⟨Eq.trans (b := Value.bool _) rfl (ret_b ?_), trivial⟩, by repeat (first | with_reducible exact Out.refl _ _ | refine Out.updo rfl ?_ | refine Out.upd rfl ?_ | refine Out.mixIn rfl ?_)⟩
                        first | exact may_t (by omega) | exact may_4 (by omega) | exact may_f (by omega)
                · intro h76
                  have g76 := of_decide_eq_false h76
                  refine lw_off rfl rfl rfl h76 ?_
                  refine lw_off rfl rfl rfl h76 ?_
                  refine lw_off rfl rfl rfl h76 ?_
                  refine lw_off rfl rfl rfl h76 ?_
                  refine lw_off rfl rfl rfl h76 ?_
                  refine lw_off rfl rfl rfl h76 ?_
                  refine lw_offU rfl rfl rfl ?_
                  refine lw_offU rfl rfl rfl ?_
                  refine lw_offU rfl rfl rfl ?_
                  refine lw_offU rfl rfl rfl ?_
                  refine lw_offU rfl rfl rfl ?_
                  refine lw_off rfl rfl rfl h76 ?_
                  refine lw_on rfl rfl h71 ?_
                  first | refine lw_val rfl (run_pickF (v := .bool _) rfl h76 rfl) ?_
                  first | refine lw_val rfl (run_pickF (v := .bool _) rfl h71 rfl) ?_
                  first | refine lw_val rfl (run_move (v := .bool _) rfl) ?_
                  refine lw_on rfl rfl rfl ?_
                  first | refine lw_val rfl (run_move (v := .int .i64 _) rfl) ?_
                  refine lw_on rfl rfl rfl ?_
                  refine lw_val rfl (run_eqi rfl rfl) ?_
                  refine lw_on rfl rfl rfl ?_
                  first | refine lw_val rfl (run_move (v := .bool _) rfl) ?_
                  refine lw_split (t := _) (d := 95) rfl ?_ ?_
                  · intro h94
                    have g94 := of_decide_eq_true h94
                    refine lw_on rfl rfl h94 ?_
                    first | refine lw_val rfl (run_move (v := .slice _ _ _) rfl) ?_
                    refine lw_on rfl rfl h94 ?_
                    first | refine lw_val rfl (run_move (v := .int .i64 _) rfl) ?_
                    refine lw_on rfl rfl h94 ?_
                    refine lw_val rfl (run_indexAddr Tryd.underlying22 sz3 rfl rfl (i := id) rfl (by omega) rfl) ?_
                    refine lw_on rfl rfl h94 ?_
                    refine lw_val rfl (run_load Tryd.underlying3 rfl rfl (hs.ownAt 3 rfl hsl)) ?_
                    refine lw_on rfl rfl h94 ?_
                    refine lw_val rfl (run_eqi rfl rfl) ?_
                    refine lw_on rfl rfl rfl ?_
                    first | refine lw_val rfl (run_pickT (v := .bool _) rfl h94 rfl) ?_
                    first | refine lw_val rfl (run_pickF (v := .bool _) rfl rfl rfl) ?_
                    first | refine lw_val rfl (run_assign (v := .bool _) rfl) ?_
                    refine lw_nil ?_
                    refine ⟨(), hs, ⟨Eq.trans (b := Value.bool _) rfl (ret_b ?_), trivial⟩, by repeat (first | with_reducible exact Out.refl _ _ | refine Out.updo rfl ?_ | refine Out.upd rfl ?_ | refine Out.mixIn rfl ?_)⟩
                    first | exact may_t (by omega) | exact may_4 (by omega) | exact may_f (by omega)
                  · intro h94
                    have g94 := of_decide_eq_false h94
                    refine lw_off rfl rfl rfl h94 ?_
                    refine lw_off rfl rfl rfl h94 ?_
                    refine lw_off rfl rfl rfl h94 ?_
                    refine lw_off rfl rfl rfl h94 ?_
                    refine lw_off rfl rfl rfl h94 ?_
                    refine lw_on rfl rfl rfl ?_
                    first | refine lw_val rfl (run_pickF (v := .bool _) rfl h94 rfl) ?_
                    first | refine lw_val rfl (run_pickF (v := .bool _) rfl rfl rfl) ?_
                    first | refine lw_val rfl (run_assign (v := .bool _) rfl) ?_
                    refine lw_nil ?_
                    refine ⟨(), hs, ⟨Eq.trans (b := Value.bool _) rfl (ret_b ?_), trivial⟩, by repeat (first | with_reducible exact Out.refl _ _ | refine Out.updo rfl ?_ | refine Out.upd rfl ?_ | refine Out.mixIn rfl ?_)⟩
                    first | exact may_t (by omega) | exact may_4 (by omega) | exact may_f (by omega)
            · intro h65
              have g65 := of_decide_eq_false h65
              refine lw_off rfl rfl rfl h65 ?_
              refine lw_off rfl rfl rfl h65 ?_
              refine lw_off rfl rfl rfl h65 ?_
              refine lw_off rfl rfl rfl h65 ?_
              refine lw_off rfl rfl rfl h65 ?_
              refine lw_on rfl rfl h61 ?_
              first | refine lw_val rfl (run_pickF (v := .bool _) rfl h65 rfl) ?_
              first | refine lw_val rfl (run_pickF (v := .bool _) rfl h61 rfl) ?_
              first | refine lw_val rfl (run_move (v := .bool _) rfl) ?_
              refine lw_on rfl rfl rfl ?_
              first | refine lw_val rfl (run_move (v := .int .i64 _) rfl) ?_
              refine lw_on rfl rfl rfl ?_
              refine lw_val rfl (run_eqi rfl rfl) ?_
              refine lw_on rfl rfl rfl ?_
              first | refine lw_val rfl (run_move (v := .bool _) rfl) ?_
              refine lw_split (t := _) (d := 77) rfl ?_ ?_
              · intro h76
                have g76 := of_decide_eq_true h76
                refine lw_on rfl rfl h76 ?_
                first | refine lw_val rfl (run_move (v := .slice _ _ _) rfl) ?_
                refine lw_on rfl rfl h76 ?_
                first | refine lw_val rfl (run_move (v := .int .i64 _) rfl) ?_
                refine lw_on rfl rfl h76 ?_
                refine lw_val rfl (run_indexAddr Tryd.underlying22 sz3 rfl rfl (i := id) rfl (by omega) rfl) ?_
                refine lw_on rfl rfl h76 ?_
                refine lw_val rfl (run_load Tryd.underlying3 rfl rfl (hs.ownAt 3 rfl hsl)) ?_
                refine lw_on rfl rfl h76 ?_
                refine lw_val rfl (run_eqi rfl rfl) ?_
                refine lw_on rfl rfl h76 ?_
                first | refine lw_val rfl (run_move (v := .bool _) rfl) ?_
                refine lw_split (t := _) (d := 83) rfl ?_ ?_
                · intro h82
                  have g82 := of_decide_eq_true h82
                  refine lw_off rfl rfl rfl h82 ?_
                  refine lw_off rfl rfl rfl h82 ?_
                  refine lw_off rfl rfl rfl h82 ?_
                  refine lw_off rfl rfl rfl h82 ?_
                  refine lw_off rfl rfl rfl h82 ?_
                  refine lw_on rfl rfl h76 ?_
                  first | refine lw_val rfl (run_pickT (v := .bool _) rfl h82 rfl) ?_
                  refine lw_on rfl rfl rfl ?_
                  first | refine lw_val rfl (run_pickT (v := .bool _) rfl h76 rfl) ?_
                  first | refine lw_val rfl (run_pickF (v := .bool _) rfl rfl rfl) ?_
                  first | refine lw_val rfl (run_move (v := .bool _) rfl) ?_
                  refine lw_off rfl rfl rfl rfl ?_
                  refine lw_off rfl rfl rfl rfl ?_
                  refine lw_off rfl rfl rfl rfl ?_
                  refine lw_offU rfl rfl rfl ?_
                  refine lw_offU rfl rfl rfl ?_
                  refine lw_offU rfl rfl rfl ?_
                  refine lw_offU rfl rfl rfl ?_
                  refine lw_offU rfl rfl rfl ?_
                  refine lw_off rfl rfl rfl rfl ?_
                  first | refine lw_val rfl (run_pickT (v := .bool _) rfl rfl rfl) ?_
                  first | refine lw_val rfl (run_assign (v := .bool _) rfl) ?_
                  refine lw_nil ?_
                  refine ⟨(), hs, ⟨Eq.trans (b := Value.bool _) rfl (ret_b ?_), trivial⟩, by repeat (first | with_reducible exact Out.refl _ _ | refine Out.updo rfl ?_ | refine Out.upd rfl ?_ | refine Out.mixIn rfl ?_)⟩
                  first | exact may_t (by omega) | exact may_4 (by omega) | exact may_f (by omega)
                · intro h82
                  have g82 := of_decide_eq_false h82
                  refine lw_on rfl rfl h82 ?_
                  first | refine lw_val rfl (run_move (v := .slice _ _ _) rfl) ?_
                  refine lw_on rfl rfl h82 ?_
                  first | refine lw_val rfl (run_move (v := .int .i64 _) rfl) ?_
                  refine lw_on rfl rfl h82 ?_
                  refine lw_val rfl (run_indexAddr Tryd.underlying22 sz3 rfl rfl (i := id) rfl (by omega) rfl) ?_
                  refine lw_on rfl rfl h82 ?_
                  refine lw_val rfl (run_load Tryd.underlying3 rfl rfl (hs.ownAt 3 rfl hsl)) ?_
                  refine lw_on rfl rfl h82 ?_
                  refine lw_val rfl (run_eqi rfl rfl) ?_
                  refine lw_on rfl rfl h76 ?_
                  first | refine lw_val rfl (run_pickF (v := .bool _) rfl h82 rfl) ?_
                  refine lw_on rfl rfl rfl ?_
                  first | refine lw_val rfl (run_pickT (v := .bool _) rfl h76 rfl) ?_
                  first | refine lw_val rfl (run_pickF (v := .bool _) rfl rfl rfl) ?_
                  first | refine lw_val rfl (run_move (v := .bool _) rfl) ?_
                  refine lw_split (t := _) (d := 92) rfl ?_ ?_
                  · intro h88
                    have g88 := of_decide_eq_true h88
                    refine lw_off rfl rfl rfl h88 ?_
                    refine lw_off rfl rfl rfl h88 ?_
                    refine lw_off rfl rfl rfl h88 ?_
                    refine lw_offU rfl rfl rfl ?_
                    refine lw_offU rfl rfl rfl ?_
                    refine lw_offU rfl rfl rfl ?_
                    refine lw_offU rfl rfl rfl ?_
                    refine lw_offU rfl rfl rfl ?_
                    refine lw_off rfl rfl rfl h88 ?_
                    first | refine lw_val rfl (run_pickT (v := .bool _) rfl h88 rfl) ?_
                    first | refine lw_val rfl (run_assign (v := .bool _) rfl) ?_
                    refine lw_nil ?_
                    refine ⟨(), hs, ⟨Eq.trans (b := Value.bool _) rfl (ret_b ?_), trivial⟩, by repeat (first | with_reducible exact Out.refl _ _ | refine Out.updo rfl ?_ | refine Out.upd rfl ?_ | refine Out.mixIn rfl ?_)⟩
                    first | exact may_t (by omega) | exact may_4 (by omega) | exact may_f (by omega)
                  · intro h88
                    have g88 := of_decide_eq_false h88
                    refine lw_on rfl rfl h88 ?_
                    first | refine lw_val rfl (run_move (v := .int .i64 _) rfl) ?_
                    refine lw_on rfl rfl h88 ?_
                    refine lw_val rfl (run_eqi rfl rfl) ?_
                    refine lw_on rfl rfl h88 ?_
                    first | refine lw_val rfl (run_move (v := .bool _) rfl) ?_
                    refine lw_split (t := _) (d := 95) rfl ?_ ?_
                    · intro h94
                      have g94 := of_decide_eq_true h94
                      refine lw_on rfl rfl h94 ?_
                      first | refine lw_val rfl (run_move (v := .slice _ _ _) rfl) ?_
                      refine lw_on rfl rfl h94 ?_
                      first | refine lw_val rfl (run_move (v := .int .i64 _) rfl) ?_
                      refine lw_on rfl rfl h94 ?_
                      refine lw_val rfl (run_indexAddr Tryd.underlying22 sz3 rfl rfl (i := id) rfl (by omega) rfl) ?_
                      refine lw_on rfl rfl h94 ?_
                      refine lw_val rfl (run_load Tryd.underlying3 rfl rfl (hs.ownAt 3 rfl hsl)) ?_
                      refine lw_on rfl rfl h94 ?_
                      refine lw_val rfl (run_eqi rfl rfl) ?_
                      refine lw_on rfl rfl h88 ?_
                      first | refine lw_val rfl (run_pickT (v := .bool _) rfl h94 rfl) ?_
                      first | refine lw_val rfl (run_pickF (v := .bool _) rfl h88 rfl) ?_
                      first | refine lw_val rfl (run_assign (v := .bool _) rfl) ?_
                      refine lw_nil ?_
                      refine ⟨(), hs, ⟨Eq.trans (b := Value.bool _) rfl (ret_b ?_), trivial⟩, by repeat (first | with_reducible exact Out.refl _ _ | refine Out.updo rfl ?_ | refine Out.upd rfl ?_ | refine Out.mixIn rfl ?_)⟩
                      first | exact may_t (by omega) | exact may_4 (by omega) | exact may_f (by omega)
                    · intro h94
                      have g94 := of_decide_eq_false h94
                      refine lw_off rfl rfl rfl h94 ?_
                      refine lw_off rfl rfl rfl h94 ?_
                      refine lw_off rfl rfl rfl h94 ?_
                      refine lw_off rfl rfl rfl h94 ?_
                      refine lw_off rfl rfl rfl h94 ?_
                      refine lw_on rfl rfl h88 ?_
                      first | refine lw_val rfl (run_pickF (v := .bool _) rfl h94 rfl) ?_
                      first | refine lw_val rfl (run_pickF (v := .bool _) rfl h88 rfl) ?_
                      first | refine lw_val rfl (run_assign (v := .bool _) rfl) ?_
                      refine lw_nil ?_
                      refine ⟨(), hs, ⟨Eq.trans (b := Value.bool _) rfl (ret_b ?_), trivial⟩, by repeat (first | with_reducible exact Out.refl _ _ | refine Out.updo rfl ?_ | refine Out.upd rfl ?_ | refine Out.mixIn rfl ?_)⟩
                      first | exact may_t (by omega) | exact may_4 (by omega) | exact may_f (by omega)
              · intro h76
                have g76 := of_decide_eq_false h76
                refine lw_off rfl rfl rfl h76 ?_
                refine lw_off rfl rfl rfl h76 ?_
                refine lw_off rfl rfl rfl h76 ?_
                refine lw_off rfl rfl rfl h76 ?_
                refine lw_off rfl rfl rfl h76 ?_
                refine lw_off rfl rfl rfl h76 ?_
                refine lw_offU rfl rfl rfl ?_
                refine lw_offU rfl rfl rfl ?_
                refine lw_offU rfl rfl rfl ?_
                refine lw_offU rfl rfl rfl ?_
                refine lw_offU rfl rfl rfl ?_
                refine lw_off rfl rfl rfl h76 ?_
                refine lw_on rfl rfl rfl ?_
                first | refine lw_val rfl (run_pickF (v := .bool _) rfl h76 rfl) ?_
                first | refine lw_val rfl (run_pickF (v := .bool _) rfl rfl rfl) ?_
                first | refine lw_val rfl (run_move (v := .bool _) rfl) ?_
                refine lw_on rfl rfl rfl ?_
                first | refine lw_val rfl (run_move (v := .int .i64 _) rfl) ?_
                refine lw_on rfl rfl rfl ?_
                refine lw_val rfl (run_eqi rfl rfl) ?_
                refine lw_on rfl rfl rfl ?_
                first | refine lw_val rfl (run_move (v := .bool _) rfl) ?_
                refine lw_split (t := _) (d := 95) rfl ?_ ?_
                · intro h94
                  have g94 := of_decide_eq_true h94
                  refine lw_on rfl rfl h94 ?_
                  first | refine lw_val rfl (run_move (v := .slice _ _ _) rfl) ?_
                  refine lw_on rfl rfl h94 ?_
                  first | refine lw_val rfl (run_move (v := .int .i64 _) rfl) ?_
                  refine lw_on rfl rfl h94 ?_
                  refine lw_val rfl (run_indexAddr Tryd.underlying22 sz3 rfl rfl (i := id) rfl (by omega) rfl) ?_
                  refine lw_on rfl rfl h94 ?_
                  refine lw_val rfl (run_load Tryd.underlying3 rfl rfl (hs.ownAt 3 rfl hsl)) ?_
                  refine lw_on rfl rfl h94 ?_
                  refine lw_val rfl (run_eqi rfl rfl) ?_
                  refine lw_on rfl rfl rfl ?_
                  first | refine lw_val rfl (run_pickT (v := .bool _) rfl h94 rfl) ?_
                  first | refine lw_val rfl (run_pickF (v := .bool _) rfl rfl rfl) ?_
                  first | refine lw_val rfl (run_assign (v := .bool _) rfl) ?_
                  refine lw_nil ?_
                  refine ⟨(), hs, ⟨Eq.trans (b := Value.bool _) rfl (ret_b ?_), trivial⟩, by repeat (first | with_reducible exact Out.refl _ _ | refine Out.updo rfl ?_ | refine Out.upd rfl ?_ | refine Out.mixIn rfl ?_)⟩
                  first | exact may_t (by omega) | exact may_4 (by omega) | exact may_f (by omega)
                · intro h94
                  have g94 := of_decide_eq_false h94
                  refine lw_off rfl rfl rfl h94 ?_
                  refine lw_off rfl rfl rfl h94 ?_
                  refine lw_off rfl rfl rfl h94 ?_
                  refine lw_off rfl rfl rfl h94 ?_
                  refine lw_off rfl rfl rfl h94 ?_
                  refine lw_on rfl rfl rfl ?_
                  first | refine lw_val rfl (run_pickF (v := .bool _) rfl h94 rfl) ?_
                  first | refine lw_val rfl (run_pickF (v := .bool _) rfl rfl rfl) ?_
                  first | refine lw_val rfl (run_assign (v := .bool _) rfl) ?_
                  refine lw_nil ?_
                  refine ⟨(), hs, ⟨Eq.trans (b := Value.bool _) rfl (ret_b ?_), trivial⟩, by repeat (first | with_reducible exact Out.refl _ _ | refine Out.updo rfl ?_ | refine Out.upd rfl ?_ | refine Out.mixIn rfl ?_)⟩
                  first | exact may_t (by omega) | exact may_4 (by omega) | exact may_f (by omega)
        · intro h55
          have g55 := of_decide_eq_false h55
          refine lw_off rfl rfl rfl h55 ?_
          refine lw_off rfl rfl rfl h55 ?_
          refine lw_off rfl rfl rfl h55 ?_
          refine lw_off rfl rfl rfl h55 ?_
          refine lw_off rfl rfl rfl h55 ?_
          first | refine lw_val rfl (run_pickF (v := .bool _) rfl h55 rfl) ?_
          first | refine lw_val rfl (run_move (v := .bool _) rfl) ?_
          refine lw_on rfl rfl rfl ?_
          first | refine lw_val rfl (run_move (v := .int .i64 _) rfl) ?_
          refine lw_on rfl rfl rfl ?_
          refine lw_val rfl (run_eqi rfl rfl) ?_
          refine lw_on rfl rfl rfl ?_
          first | refine lw_val rfl (run_move (v := .bool _) rfl) ?_
          refine lw_split (t := _) (d := 66) rfl ?_ ?_
          · intro h65
            have g65 := of_decide_eq_true h65
            refine lw_on rfl rfl h65 ?_
            first | refine lw_val rfl (run_move (v := .slice _ _ _) rfl) ?_
            refine lw_on rfl rfl h65 ?_
            first | refine lw_val rfl (run_move (v := .int .i64 _) rfl) ?_
            refine lw_on rfl rfl h65 ?_
            refine lw_val rfl (run_indexAddr Tryd.underlying22 sz3 rfl rfl (i := id) rfl (by omega) rfl) ?_
            refine lw_on rfl rfl h65 ?_
            refine lw_val rfl (run_load Tryd.underlying3 rfl rfl (hs.ownAt 3 rfl hsl)) ?_
            refine lw_on rfl rfl h65 ?_
            refine lw_val rfl (run_eqi rfl rfl) ?_
            refine lw_on rfl rfl rfl ?_
            first | refine lw_val rfl (run_pickT (v := .bool _) rfl h65 rfl) ?_
            first | refine lw_val rfl (run_pickF (v := .bool _) rfl rfl rfl) ?_
            first | refine lw_val rfl (run_move (v := .bool _) rfl) ?_
            refine lw_split (t := _) (d := 74) rfl ?_ ?_
            · intro h71
              have g71 := of_decide_eq_true h71
              refine lw_off rfl rfl rfl h71 ?_
              refine lw_off rfl rfl rfl h71 ?_
              refine lw_off rfl rfl rfl h71 ?_
              refine lw_offU rfl rfl rfl ?_
              refine lw_offU rfl rfl rfl ?_
              refine lw_offU rfl rfl rfl ?_
              refine lw_offU rfl rfl rfl ?_
              refine lw_offU rfl rfl rfl ?_
              refine lw_offU rfl rfl rfl ?_
              refine lw_offU rfl rfl rfl ?_
              refine lw_offU rfl rfl rfl ?_
              refine lw_offU rfl rfl rfl ?_
              refine lw_offU rfl rfl rfl ?_
              refine lw_offU rfl rfl rfl ?_
              refine lw_offU rfl rfl rfl ?_
              refine lw_off rfl rfl rfl h71 ?_
              first | refine lw_val rfl (run_pickT (v := .bool _) rfl h71 rfl) ?_
              first | refine lw_val rfl (run_move (v := .bool _) rfl) ?_
              refine lw_off rfl rfl rfl rfl ?_
              refine lw_off rfl rfl rfl rfl ?_
              refine lw_off rfl rfl rfl rfl ?_
              refine lw_offU rfl rfl rfl ?_
              refine lw_offU rfl rfl rfl ?_
              refine lw_offU rfl rfl rfl ?_
              refine lw_offU rfl rfl rfl ?_
              refine lw_offU rfl rfl rfl ?_
              refine lw_off rfl rfl rfl rfl ?_
              first | refine lw_val rfl (run_pickT (v := .bool _) rfl rfl rfl) ?_
              first | refine lw_val rfl (run_assign (v := .bool _) rfl) ?_
              refine lw_nil ?_
              refine ⟨(), hs, ⟨Eq.trans (b := Value.bool _) rfl (ret_b ?_), trivial⟩, by repeat (first | with_reducible exact Out.refl _ _ | refine Out.updo rfl ?_ | refine Out.upd rfl ?_ | refine Out.mixIn rfl ?_)⟩
              first | exact may_t (by omega) | exact may_4 (by omega) | exact may_f (by omega)
            · intro h71
              have g71 := of_decide_eq_false h71
              refine lw_on rfl rfl h71 ?_
              first | refine lw_val rfl (run_move (v := .int .i64 _) rfl) ?_
              refine lw_on rfl rfl h71 ?_
              refine lw_val rfl (run_eqi rfl rfl) ?_
              refine lw_on rfl rfl h71 ?_
              first | refine lw_val rfl (run_move (v := .bool _) rfl) ?_
              refine lw_split (t := _) (d := 77) rfl ?_ ?_
              · intro h76
                have g76 := of_decide_eq_true h76
                refine lw_on rfl rfl h76 ?_
                first | refine lw_val rfl (run_move (v := .slice _ _ _) rfl) ?_
                refine lw_on rfl rfl h76 ?_
                first | refine lw_val rfl (run_move (v := .int .i64 _) rfl) ?_
                refine lw_on rfl rfl h76 ?_
                refine lw_val rfl (run_indexAddr Tryd.underlying22 sz3 rfl rfl (i := id) rfl (by omega) rfl) ?_
                refine lw_on rfl rfl h76 ?_
                refine lw_val rfl (run_load Tryd.underlying3 rfl rfl (hs.ownAt 3 rfl hsl)) ?_
                refine lw_on rfl rfl h76 ?_
                refine lw_val rfl (run_eqi rfl rfl) ?_
                refine lw_on rfl rfl h76 ?_
                first | refine lw_val rfl (run_move (v := .bool _) rfl) ?_
                refine lw_split (t := _) (d := 83) rfl ?_ ?_
                · intro h82
                  have g82 := of_decide_eq_true h82
                  refine lw_off rfl rfl rfl h82 ?_
                  refine lw_off rfl rfl rfl h82 ?_
                  refine lw_off rfl rfl rfl h82 ?_
                  refine lw_off rfl rfl rfl h82 ?_
                  refine lw_off rfl rfl rfl h82 ?_
                  refine lw_on rfl rfl h76 ?_
                  first | refine lw_val rfl (run_pickT (v := .bool _) rfl h82 rfl) ?_
                  refine lw_on rfl rfl h71 ?_
                  first | refine lw_val rfl (run_pickT (v := .bool _) rfl h76 rfl) ?_
                  first | refine lw_val rfl (run_pickF (v := .bool _) rfl h71 rfl) ?_
                  first | refine lw_val rfl (run_move (v := .bool _) rfl) ?_
                  refine lw_off rfl rfl rfl rfl ?_
                  refine lw_off rfl rfl rfl rfl ?_
                  refine lw_off rfl rfl rfl rfl ?_
                  refine lw_offU rfl rfl rfl ?_
                  refine lw_offU rfl rfl rfl ?_
                  refine lw_offU rfl rfl rfl ?_
                  refine lw_offU rfl rfl rfl ?_
                  refine lw_offU rfl rfl rfl ?_
                  refine lw_off rfl rfl rfl rfl ?_
                  first | refine lw_val rfl (run_pickT (v := .bool _) rfl rfl rfl) ?_
                  first | refine lw_val rfl (run_assign (v := .bool _) rfl) ?_
                  refine lw_nil ?_
                  refine ⟨(), hs, ⟨Eq.trans (b := Value.bool _) rfl (ret_b ?_), trivial⟩, by repeat (first | with_reducible exact Out.refl _ _ | refine Out.updo rfl ?_ | refine Out.upd rfl ?_ | refine Out.mixIn rfl ?_)⟩
                  first | exact may_t (by omega) | exact may_4 (by omega) | exact may_f (by omega)
                · intro h82
                  have g82 := of_decide_eq_false h82
                  refine lw_on rfl rfl h82 ?_
                  first | refine lw_val rfl (run_move (v := .slice _ _ _) rfl) ?_
                  refine lw_on rfl rfl h82 ?_
                  first | refine lw_val rfl (run_move (v := .int .i64 _) rfl) ?_
                  refine lw_on rfl rfl h82 ?_
                  refine lw_val rfl (run_indexAddr Tryd.underlying22 sz3 rfl rfl (i := id) rfl (by omega) rfl) ?_
                  refine lw_on rfl rfl h82 ?_
                  refine lw_val rfl (run_load Tryd.underlying3 rfl rfl (hs.ownAt 3 rfl hsl)) ?_
                  refine lw_on rfl rfl h82 ?_
                  refine lw_val rfl (run_eqi rfl rfl) ?_
                  refine lw_on rfl rfl h76 ?_
                  first | refine lw_val rfl (run_pickF (v := .bool _) rfl h82 rfl) ?_
                  refine lw_on rfl rfl h71 ?_
                  first | refine lw_val rfl (run_pickT (v := .bool _) rfl h76 rfl) ?_
                  first | refine lw_val rfl (run_pickF (v := .bool _) rfl h71 rfl) ?_
                  first | refine lw_val rfl (run_move (v := .bool _) rfl) ?_
                  refine lw_split (t := _) (d := 92) rfl ?_ ?_
                  · intro h88
                    have g88 := of_decide_eq_true h88
                    refine lw_off rfl rfl rfl h88 ?_
                    refine lw_off rfl rfl rfl h88 ?_
                    refine lw_off rfl rfl rfl h88 ?_
                    refine lw_offU rfl rfl rfl ?_
                    refine lw_offU rfl rfl rfl ?_
                    refine lw_offU rfl rfl rfl ?_
                    refine lw_offU rfl rfl rfl ?_
                    refine lw_offU rfl rfl rfl ?_
                    refine lw_off rfl rfl rfl h88 ?_
                    first | refine lw_val rfl (run_pickT (v := .bool _) rfl h88 rfl) ?_
                    first | refine lw_val rfl (run_assign (v := .bool _) rfl) ?_
                    refine lw_nil ?_
                    refine ⟨(), hs, ⟨Eq.trans (b := Value.bool _) rfl (ret_b ?_), trivial⟩, by repeat (first | with_reducible exact Out.refl _ _ | refine Out.updo rfl ?_ | refine Out.upd rfl ?_ | refine Out.mixIn rfl ?_)⟩
                    first | exact may_t (by omega) | exact may_4 (by omega) | exact may_f (by omega)
                  · intro h88
                    have g88 := of_decide_eq_false h88
                    refine lw_on rfl rfl h88 ?_
                    first | refine lw_val rfl (run_move (v := .int .i64 _) rfl) ?_
                    refine lw_on rfl rfl h88 ?_
                    refine lw_val rfl (run_eqi rfl rfl) ?_
                    refine lw_on rfl rfl h88 ?_
                    first | refine lw_val rfl (run_move (v := .bool _) rfl) ?_
                    refine lw_split (t := _) (d := 95) rfl ?_ ?_
                    · intro h94
                      have g94 := of_decide_eq_true h94
                      refine lw_on rfl rfl h94 ?_
                      first | refine lw_val rfl (run_move (v := .slice _ _ _) rfl) ?_
                      refine lw_on rfl rfl h94 ?_
                      first | refine lw_val rfl (run_move (v := .int .i64 _) rfl) ?_
                      refine lw_on rfl rfl h94 ?_
                      refine lw_val rfl (run_indexAddr Tryd.underlying22 sz3 rfl rfl (i := id) rfl (by omega) rfl) ?_
                      refine lw_on rfl rfl h94 ?_
                      refine lw_val rfl (run_load Tryd.underlying3 rfl rfl (hs.ownAt 3 rfl hsl)) ?_
                      refine lw_on rfl rfl h94 ?_
                      refine lw_val rfl (run_eqi rfl rfl) ?_
                      refine lw_on rfl rfl h88 ?_
                      first | refine lw_val rfl (run_pickT (v := .bool _) rfl h94 rfl) ?_
                      first | refine lw_val rfl (run_pickF (v := .bool _) rfl h88 rfl) ?_
                      first | refine lw_val rfl (run_assign (v := .bool _) rfl) ?_
                      refine lw_nil ?_
                      refine ⟨(), hs, ⟨Eq.trans (b := Value.bool _) rfl (ret_b ?_), trivial⟩, by repeat (first | with_reducible exact Out.refl _ _ | refine Out.updo rfl ?_ | refine Out.upd rfl ?_ | refine Out.mixIn rfl ?_)⟩
                      first | exact may_t (by omega) | exact may_4 (by omega) | exact may_f (by omega)
                    · intro h94
                      have g94 := of_decide_eq_false h94
                      refine lw_off rfl rfl rfl h94 ?_
                      refine lw_off rfl rfl rfl h94 ?_
                      refine lw_off rfl rfl rfl h94 ?_
                      refine lw_off rfl rfl rfl h94 ?_
                      refine lw_off rfl rfl rfl h94 ?_
                      refine lw_on rfl rfl h88 ?_
                      first | refine lw_val rfl (run_pickF (v := .bool _) rfl h94 rfl) ?_
                      first | refine lw_val rfl (run_pickF (v := .bool _) rfl h88 rfl) ?_
                      first | refine lw_val rfl (run_assign (v := .bool _) rfl) ?_
                      refine lw_nil ?_
                      refine ⟨(), hs, ⟨Eq.trans (b := Value.bool _) rfl (ret_b ?_), trivial⟩, by repeat (first | with_reducible exact Out.refl _ _ | refine Out.updo rfl ?_ | refine Out.upd rfl ?_ | refine Out.mixIn rfl ?_)⟩
                      first | exact may_t (by omega) | exact may_4 (by omega) | exact may_f (by omega)
              · intro h76
                have g76 := of_decide_eq_false h76
                refine lw_off rfl rfl rfl h76 ?_
                refine lw_off rfl rfl rfl h76 ?_
                refine lw_off rfl rfl rfl h76 ?_
                refine lw_off rfl rfl rfl h76 ?_
                refine lw_off rfl rfl rfl h76 ?_
                refine lw_off rfl rfl rfl h76 ?_
                refine lw_offU rfl rfl rfl ?_
                refine lw_offU rfl rfl rfl ?_
                refine lw_offU rfl rfl rfl ?_
                refine lw_offU rfl rfl rfl ?_
                refine lw_offU rfl rfl rfl ?_
                refine lw_off rfl rfl rfl h76 ?_
                refine lw_on rfl rfl h71 ?_
                first | refine lw_val rfl (run_pickF (v := .bool _) rfl h76 rfl) ?_
                first | refine lw_val rfl (run_pickF (v := .bool _) rfl h71 rfl) ?_
                first | refine lw_val rfl (run_move (v := .bool _) rfl) ?_
                refine lw_on rfl rfl rfl ?_
                first | refine lw_val rfl (run_move (v := .int .i64 _) rfl) ?_
                refine lw_on rfl rfl rfl ?_
                refine lw_val rfl (run_eqi rfl rfl) ?_
                refine lw_on rfl rfl rfl ?_
                first | refine lw_val rfl (run_move (v := .bool _) rfl) ?_
                refine lw_split (t := _) (d := 95) rfl ?_ ?_
                · intro h94
                  have g94 := of_decide_eq_true h94
                  refine lw_on rfl rfl h94 ?_
                  first | refine lw_val rfl (run_move (v := .slice _ _ _) rfl) ?_
                  refine lw_on rfl rfl h94 ?_
                  first | refine lw_val rfl (run_move (v := .int .i64 _) rfl) ?_
                  refine lw_on rfl rfl h94 ?_
                  refine lw_val rfl (run_indexAddr Tryd.underlying22 sz3 rfl rfl (i := id) rfl (by omega) rfl) ?_
                  refine lw_on rfl rfl h94 ?_
                  refine lw_val rfl (run_load Tryd.underlying3 rfl rfl (hs.ownAt 3 rfl hsl)) ?_
                  refine lw_on rfl rfl h94 ?_
                  refine lw_val rfl (run_eqi rfl rfl) ?_
                  refine lw_on rfl rfl rfl ?_
                  first | refine lw_val rfl (run_pickT (v := .bool _) rfl h94 rfl) ?_
                  first | refine lw_val rfl (run_pickF (v := .bool _) rfl rfl rfl) ?_
                  first | refine lw_val rfl (run_assign (v := .bool _) rfl) ?_
                  refine lw_nil ?_
                  refine ⟨(), hs, ⟨Eq.trans (b := Value.bool _) rfl (ret_b ?_), trivial⟩, by repeat (first | with_reducible exact Out.refl _ _ | refine Out.updo rfl ?_ | refine Out.upd rfl ?_ | refine Out.mixIn rfl ?_)⟩
                  first | exact may_t (by omega) | exact may_4 (by omega) | exact may_f (by omega)
                · intro h94
                  have g94 := of_decide_eq_false h94
                  refine lw_off rfl rfl rfl h94 ?_
                  refine lw_off rfl rfl rfl h94 ?_
                  refine lw_off rfl rfl rfl h94 ?_
                  refine lw_off rfl rfl rfl h94 ?_
                  refine lw_off rfl rfl rfl h94 ?_
                  refine lw_on rfl rfl rfl ?_
                  first | refine lw_val rfl (run_pickF (v := .bool _) rfl h94 rfl) ?_
                  first | refine lw_val rfl (run_pickF (v := .bool _) rfl rfl rfl) ?_
                  first | refine lw_val rfl (run_assign (v := .bool _) rfl) ?_
                  refine lw_nil ?_
                  refine ⟨(), hs, ⟨Eq.trans (b := Value.bool _) rfl (ret_b ?_), trivial⟩, by repeat (first | with_reducible exact Out.refl _ _ | refine Out.updo rfl ?_ | refine Out.upd rfl ?_ | refine Out.mixIn rfl ?_)⟩
                  first | exact may_t (by omega) | exact may_4 (by omega) | exact may_f (by omega)
          · intro h65
            have g65 := of_decide_eq_false h65
            refine lw_off rfl rfl rfl h65 ?_
            refine lw_off rfl rfl rfl h65 ?_
            refine lw_off rfl rfl rfl h65 ?_
            refine lw_off rfl rfl rfl h65 ?_
            refine lw_off rfl rfl rfl h65 ?_
            refine lw_on rfl rfl rfl ?_
            first | refine lw_val rfl (run_pickF (v := .bool _) rfl h65 rfl) ?_
            first | refine lw_val rfl (run_pickF (v := .bool _) rfl rfl rfl) ?_
            first | refine lw_val rfl (run_move (v := .bool _) rfl) ?_
            refine lw_on rfl rfl rfl ?_
            first | refine lw_val rfl (run_move (v := .int .i64 _) rfl) ?_
            refine lw_on rfl rfl rfl ?_
            refine lw_val rfl (run_eqi rfl rfl) ?_
            refine lw_on rfl rfl rfl ?_
            first | refine lw_val rfl (run_move (v := .bool _) rfl) ?_
            refine lw_split (t := _) (d := 77) rfl ?_ ?_
            · intro h76
              have g76 := of_decide_eq_true h76
              refine lw_on rfl rfl h76 ?_
              first | refine lw_val rfl (run_move (v := .slice _ _ _) rfl) ?_
              refine lw_on rfl rfl h76 ?_
              first | refine lw_val rfl (run_move (v := .int .i64 _) rfl) ?_
              refine lw_on rfl rfl h76 ?_
              refine lw_val rfl (run_indexAddr Tryd.underlying22 sz3 rfl rfl (i := id) rfl (by omega) rfl) ?_
              refine lw_on rfl rfl h76 ?_
              refine lw_val rfl (run_load Tryd.underlying3 rfl rfl (hs.ownAt 3 rfl hsl)) ?_
              refine lw_on rfl rfl h76 ?_
              refine lw_val rfl (run_eqi rfl rfl) ?_
              refine lw_on rfl rfl h76 ?_
              first | refine lw_val rfl (run_move (v := .bool _) rfl) ?_
              refine lw_split (t := _) (d := 83) rfl ?_ ?_
              · intro h82
                have g82 := of_decide_eq_true h82
                refine lw_off rfl rfl rfl h82 ?_
                refine lw_off rfl rfl rfl h82 ?_
                refine lw_off rfl rfl rfl h82 ?_
                refine lw_off rfl rfl rfl h82 ?_
                refine lw_off rfl rfl rfl h82 ?_
                refine lw_on rfl rfl h76 ?_
                first | refine lw_val rfl (run_pickT (v := .bool _) rfl h82 rfl) ?_
                refine lw_on rfl rfl rfl ?_
                first | refine lw_val rfl (run_pickT (v := .bool _) rfl h76 rfl) ?_
                first | refine lw_val rfl (run_pickF (v := .bool _) rfl rfl rfl) ?_
                first | refine lw_val rfl (run_move (v := .bool _) rfl) ?_
                refine lw_off rfl rfl rfl rfl ?_
                refine lw_off rfl rfl rfl rfl ?_
                refine lw_off rfl rfl rfl rfl ?_
                refine lw_offU rfl rfl rfl ?_
                refine lw_offU rfl rfl rfl ?_
                refine lw_offU rfl rfl rfl ?_
                refine lw_offU rfl rfl rfl ?_
                refine lw_offU rfl rfl rfl ?_
                refine lw_off rfl rfl rfl rfl ?_
                first | refine lw_val rfl (run_pickT (v := .bool _) rfl rfl rfl) ?_
                first | refine lw_val rfl (run_assign (v := .bool _) rfl) ?_
                refine lw_nil ?_
                refine ⟨(), hs, ⟨Eq.trans (b := Value.bool _) rfl (ret_b ?_), trivial⟩, by repeat (first | with_reducible exact Out.refl _ _ | refine Out.updo rfl ?_ | refine Out.upd rfl ?_ | refine Out.mixIn rfl ?_)⟩
                first | exact may_t (by omega) | exact may_4 (by omega) | exact may_f (by omega)
              · intro h82
                have g82 := of_decide_eq_false h82
                refine lw_on rfl rfl h82 ?_
                first | refine lw_val rfl (run_move (v := .slice _ _ _) rfl) ?_
                refine lw_on rfl rfl h82 ?_
                first | refine lw_val rfl (run_move (v := .int .i64 _) rfl) ?_
                refine lw_on rfl rfl h82 ?_
                refine lw_val rfl (run_indexAddr Tryd.underlying22 sz3 rfl rfl (i := id) rfl (by omega) rfl) ?_
                refine lw_on rfl rfl h82 ?_
                refine lw_val rfl (run_load Tryd.underlying3 rfl rfl (hs.ownAt 3 rfl hsl)) ?_
                refine lw_on rfl rfl h82 ?_
                refine lw_val rfl (run_eqi rfl rfl) ?_
                refine lw_on rfl rfl h76 ?_
                first | refine lw_val rfl (run_pickF (v := .bool _) rfl h82 rfl) ?_
                refine lw_on rfl rfl rfl ?_
                first | refine lw_val rfl (run_pickT (v := .bool _) rfl h76 rfl) ?_
                first | refine lw_val rfl (run_pickF (v := .bool _) rfl rfl rfl) ?_
                first | refine lw_val rfl (run_move (v := .bool _) rfl) ?_
                refine lw_split (t := _) (d := 92) rfl ?_ ?_
                · intro h88
                  have g88 := of_decide_eq_true h88
                  refine lw_off rfl rfl rfl h88 ?_
                  refine lw_off rfl rfl rfl h88 ?_
                  refine lw_off rfl rfl rfl h88 ?_
                  refine lw_offU rfl rfl rfl ?_
                  refine lw_offU rfl rfl rfl ?_
                  refine lw_offU rfl rfl rfl ?_
                  refine lw_offU rfl rfl rfl ?_
                  refine lw_offU rfl rfl rfl ?_
                  refine lw_off rfl rfl rfl h88 ?_
                  first | refine lw_val rfl (run_pickT (v := .bool _) rfl h88 rfl) ?_
                  first | refine lw_val rfl (run_assign (v := .bool _) rfl) ?_
                  refine lw_nil ?_
                  refine ⟨(), hs, ⟨Eq.trans (b := Value.bool _) rfl (ret_b ?_), trivial⟩, by repeat (first | with_reducible exact Out.refl _ _ | refine Out.updo rfl ?_ | refine Out.upd rfl ?_ | refine Out.mixIn rfl ?_)⟩
                  first | exact may_t (by omega) | exact may_4 (by omega) | exact may_f (by omega)
                · intro h88
                  have g88 := of_decide_eq_false h88
                  refine lw_on rfl rfl h88 ?_
                  first | refine lw_val rfl (run_move (v := .int .i64 _) rfl) ?_
                  refine lw_on rfl rfl h88 ?_
                  refine lw_val rfl (run_eqi rfl rfl) ?_
                  refine lw_on rfl rfl h88 ?_
                  first | refine lw_val rfl (run_move (v := .bool _) rfl) ?_
                  refine lw_split (t := _) (d := 95) rfl ?_ ?_
                  · intro h94
                    have g94 := of_decide_eq_true h94
                    refine lw_on rfl rfl h94 ?_
                    first | refine lw_val rfl (run_move (v := .slice _ _ _) rfl) ?_
                    refine lw_on rfl rfl h94 ?_
                    first | refine lw_val rfl (run_move (v := .int .i64 _) rfl) ?_
                    refine lw_on rfl rfl h94 ?_
                    refine lw_val rfl (run_indexAddr Tryd.underlying22 sz3 rfl rfl (i := id) rfl (by omega) rfl) ?_
                    refine lw_on rfl rfl h94 ?_
                    refine lw_val rfl (run_load Tryd.underlying3 rfl rfl (hs.ownAt 3 rfl hsl)) ?_
                    refine lw_on rfl rfl h94 ?_
                    refine lw_val rfl (run_eqi rfl rfl) ?_
                    refine lw_on rfl rfl h88 ?_
                    first | refine lw_val rfl (run_pickT (v := .bool _) rfl h94 rfl) ?_
                    first | refine lw_val rfl (run_pickF (v := .bool _) rfl h88 rfl) ?_
                    first | refine lw_val rfl (run_assign (v := .bool _) rfl) ?_
                    refine lw_nil ?_
                    refine ⟨(), hs, ⟨Eq.trans (b := Value.bool _) rfl (ret_b ?_), trivial⟩, by repeat (first | with_reducible exact Out.refl _ _ | refine Out.updo rfl ?_ | refine Out.upd rfl ?_ | refine Out.mixIn rfl ?_)⟩
                    first | exact may_t (by omega) | exact may_4 (by omega) | exact may_f (by omega)
                  · intro h94
                    have g94 := of_decide_eq_false h94
                    refine lw_off rfl rfl rfl h94 ?_
                    refine lw_off rfl rfl rfl h94 ?_
                    refine lw_off rfl rfl rfl h94 ?_
                    refine lw_off rfl rfl rfl h94 ?_
                    refine lw_off rfl rfl rfl h94 ?_
                    refine lw_on rfl rfl h88 ?_
                    first | refine lw_val rfl (run_pickF (v := .bool _) rfl h94 rfl) ?_
                    first | refine lw_val rfl (run_pickF (v := .bool _) rfl h88 rfl) ?_
                    first | refine lw_val rfl (run_assign (v := .bool _) rfl) ?_
                    refine lw_nil ?_
                    refine ⟨(), hs, ⟨Eq.trans (b := Value.bool _) rfl (ret_b ?_), trivial⟩, by repeat (first | with_reducible exact Out.refl _ _ | refine Out.updo rfl ?_ | refine Out.upd rfl ?_ | refine Out.mixIn rfl ?_)⟩
                    first | exact may_t (by omega) | exact may_4 (by omega) | exact may_f (by omega)
            · intro h76
              have g76 := of_decide_eq_false h76
              refine lw_off rfl rfl rfl h76 ?_
              refine lw_off rfl rfl rfl h76 ?_
              refine lw_off rfl rfl rfl h76 ?_
              refine lw_off rfl rfl rfl h76 ?_
              refine lw_off rfl rfl rfl h76 ?_
              refine lw_off rfl rfl rfl h76 ?_
              refine lw_offU rfl rfl rfl ?_
              refine lw_offU rfl rfl rfl ?_
              refine lw_offU rfl rfl rfl ?_
              refine lw_offU rfl rfl rfl ?_
              refine lw_offU rfl rfl rfl ?_
              refine lw_off rfl rfl rfl h76 ?_
              refine lw_on rfl rfl rfl ?_
              first | refine lw_val rfl (run_pickF (v := .bool _) rfl h76 rfl) ?_
              first | refine lw_val rfl (run_pickF (v := .bool _) rfl rfl rfl) ?_
              first | refine lw_val rfl (run_move (v := .bool _) rfl) ?_
              refine lw_on rfl rfl rfl ?_
              first | refine lw_val rfl (run_move (v := .int .i64 _) rfl) ?_
              refine lw_on rfl rfl rfl ?_
              refine lw_val rfl (run_eqi rfl rfl) ?_
              refine lw_on rfl rfl rfl ?_
              first | refine lw_val rfl (run_move (v := .bool _) rfl) ?_
              refine lw_split (t := _) (d := 95) rfl ?_ ?_
              · intro h94
                have g94 := of_decide_eq_true h94
                refine lw_on rfl rfl h94 ?_
                first | refine lw_val rfl (run_move (v := .slice _ _ _) rfl) ?_
                refine lw_on rfl rfl h94 ?_
                first | refine lw_val rfl (run_move (v := .int .i64 _) rfl) ?_
                refine lw_on rfl rfl h94 ?_
                refine lw_val rfl (run_indexAddr Tryd.underlying22 sz3 rfl rfl (i := id) rfl (by omega) rfl) ?_
                refine lw_on rfl rfl h94 ?_
                refine lw_val rfl (run_load Tryd.underlying3 rfl rfl (hs.ownAt 3 rfl hsl)) ?_
                refine lw_on rfl rfl h94 ?_
                refine lw_val rfl (run_eqi rfl rfl) ?_
                refine lw_on rfl rfl rfl ?_
                first | refine lw_val rfl (run_pickT (v := .bool _) rfl h94 rfl) ?_
                first | refine lw_val rfl (run_pickF (v := .bool _) rfl rfl rfl) ?_
                first | refine lw_val rfl (run_assign (v := .bool _) rfl) ?_
                refine lw_nil ?_
                refine ⟨(), hs, ⟨Eq.trans (b := Value.bool _) rfl (ret_b ?_), trivial⟩, by repeat (first | with_reducible exact Out.refl _ _ | refine Out.updo rfl ?_ | refine Out.upd rfl ?_ | refine Out.mixIn rfl ?_)⟩
                first | exact may_t (by omega) | exact may_4 (by omega) | exact may_f (by omega)
              · intro h94
                have g94 := of_decide_eq_false h94
                refine lw_off rfl rfl rfl h94 ?_
                refine lw_off rfl rfl rfl h94 ?_
                refine lw_off rfl rfl rfl h94 ?_
                refine lw_off rfl rfl rfl h94 ?_
                refine lw_off rfl rfl rfl h94 ?_
                refine lw_on rfl rfl rfl ?_
                first | refine lw_val rfl (run_pickF (v := .bool _) rfl h94 rfl) ?_
                first | refine lw_val rfl (run_pickF (v := .bool _) rfl rfl rfl) ?_
                first | refine lw_val rfl (run_assign (v := .bool _) rfl) ?_
                refine lw_nil ?_
                refine ⟨(), hs, ⟨Eq.trans (b := Value.bool _) rfl (ret_b ?_), trivial⟩, by repeat (first | with_reducible exact Out.refl _ _ | refine Out.updo rfl ?_ | refine Out.upd rfl ?_ | refine Out.mixIn rfl ?_)⟩
                first | exact may_t (by omega) | exact may_4 (by omega) | exact may_f (by omega)
      · skip
        clear hs
        rintro x ξ w hI
        have hs := hI
        refine cw_seq ?_
        obtain ⟨q, hnb⟩ | ⟨q, hnb⟩ : (∃ q : Unit, nextB (V.state (id : Int)) ((kd : Int) + 1) = true) ∨ (∃ q : Unit, nextB (V.state (id : Int)) ((kd : Int) + 1) = false) := by cases nextB (V.state (id : Int)) ((kd : Int) + 1) <;> simp
        · skip
          refine cw_region ?_
          first | refine lw_val rfl (run_move (v := .pointer (some _)) rfl) ?_ | refine lw_val rfl (run_move (v := .pointer none) rfl) ?_ | refine lw_val rfl (run_move (v := .pointer _) rfl) ?_
          first | refine lw_val rfl (run_move (v := .int .i64 _) rfl) ?_
          first | refine lw_val rfl (run_loadRow hs 0 rfl Tryd.underlying39 sz39 rfl) ?_ | refine lw_val rfl (run_loadRow hs 1 rfl Tryd.underlying39 sz39 rfl) ?_ | refine lw_val rfl (run_loadRow hs 2 rfl Tryd.underlying39 sz39 rfl) ?_ | refine lw_val rfl (run_loadRow hs 3 rfl Tryd.underlying39 sz39 rfl) ?_ | refine lw_val rfl (run_loadRow hs 4 rfl Tryd.underlying39 sz39 rfl) ?_ | refine lw_val rfl (run_loadRow hs 5 rfl Tryd.underlying39 sz39 rfl) ?_ | refine lw_val rfl (run_loadRow hs 6 rfl Tryd.underlying39 sz39 rfl) ?_ | refine lw_val rfl (run_loadRow hs 7 rfl Tryd.underlying39 sz39 rfl) ?_ | refine lw_val rfl (run_loadRow hs 8 rfl Tryd.underlying39 sz39 rfl) ?_ | refine lw_val rfl (run_loadRow hs 9 rfl Tryd.underlying39 sz39 rfl) ?_ | refine lw_val rfl (run_loadRow hs 10 rfl Tryd.underlying39 sz39 rfl) ?_ | refine lw_val rfl (run_loadRow hs 11 rfl Tryd.underlying39 sz39 rfl) ?_ | refine lw_val rfl (run_loadRow hs 12 rfl Tryd.underlying39 sz39 rfl) ?_ | refine lw_val rfl (run_loadRow hs 13 rfl Tryd.underlying39 sz39 rfl) ?_
          refine lw_val rfl (run_buildKM (k := (kd : Int) + 1) (m := oneM id (30 - 5 * id)) (e := s1) (o := s2) Tryd.underlying52 ze52 pl52 rfl rfl) ?_
          refine lw_call rfl en23 (applyB_sl hE hs (i := 4) rfl ((kd : Int) + 1) (x := oneM id (30 - 5 * id)) (s1 := s1) (s2 := s2) (MfR.own 1 2 rfl rfl) (by simp [oneM]) (hap.trans (if_pos hnb))) ?_
          clear hs
          rintro _ w ⟨rfl, hs⟩
          have hO1 := hO.put hid4 (s := (kd : Int) + 1) (by omega)
          first | refine lw_val rfl (run_assign (v := errV ad _) rfl) ?_ | refine lw_val rfl (run_assign (v := .nilIface) rfl) ?_ | refine lw_val rfl (run_assign (v := eV ad _ _) rfl) ?_ | refine lw_val rfl (run_assign (v := .iface _ (.pointer (some _))) rfl) ?_ | refine lw_val rfl (run_assign (v := flV ad _ _) rfl) ?_
          refine lw_nil ?_
          refine cw_seq ?_
          refine cw_seq ?_
          refine cw_region ?_
          first | refine lw_val rfl (run_move (v := errV ad _) rfl) ?_ | refine lw_val rfl (run_move (v := .nilIface) rfl) ?_ | refine lw_val rfl (run_move (v := eV ad _ _) rfl) ?_ | refine lw_val rfl (run_move (v := .iface _ (.pointer (some _))) rfl) ?_ | refine lw_val rfl (run_move (v := flV ad _ _) rfl) ?_
          first | refine lw_val rfl (run_eqerrn (ad := ad) rfl) ?_ | refine lw_val rfl (run_eqnn rfl) ?_ | refine lw_val rfl (run_eqE (ad := ad) rfl) ?_
          first | refine lw_val rfl (run_move (v := .bool _) rfl) ?_
          refine lw_val rfl (run_neb Tryd.underlying4 rfl rfl) ?_
          refine lw_nil ?_
          refine cw_iff rfl (by rw [hnb]; rfl) ?_
          refine cw_skip ?_
          refine cw_seq ?_
          refine cw_seq ?_
          refine cw_region ?_
          first | refine lw_val rfl (run_move (v := .bool _) rfl) ?_
          refine lw_nil ?_
          refine cw_ift rfl (hnb) ?_
          refine cw_region ?_
          first | refine lw_val rfl (run_move (v := .slice _ _ _) rfl) ?_
          first | refine lw_val rfl (run_move (v := .int .i64 _) rfl) ?_
          first | refine lw_val rfl (run_move (v := .int .i64 _) rfl) ?_
          refine lw_val rfl (run_indexAddr Tryd.underlying22 sz3 rfl rfl (i := id) rfl (by omega) rfl) ?_
          refine lw_storeOwn hs 4 (j := id) (v := .int .i64 ((kd : Int) + 1)) rfl sz3 rfl rfl (by simp only [intsL, stL, List.length_map, List.length_cons, List.length_nil]; omega) rfl rfl ?_
          clear hs
          intro w hs
          refine lw_nil ?_
          refine cw_seq ?_
          obtain ⟨V2, hV2⟩ : ∃ V2, V2 = aput V (id : Int) ⟨(kd : Int) + 1, oneM id (bL id)⟩ := ⟨_, rfl⟩
          have e2 : (intsL (stL V)).set id (.int .i64 ((kd : Int) + 1)) = intsL (stL V2) := by rw [hV2, stL_put _ hid4]; simp only [intsL, List.map_set]
          have hO2 : OnV bL 4 V2 := by rw [hV2]; exact hO1
          rw [← hV2] at hs
          replace hs := hs.arr [4, 0] 5 (by decide)
          simp only [List.filterMap, List.eraseIdx, List.getElem?_cons_succ, List.getElem?_cons_zero, List.drop_succ_cons, List.drop_zero, List.cons_append, List.nil_append, List.set_cons_succ, List.set_cons_zero] at hs
          rw [e2] at hs
          clear hnb hO1
          refine cw_region ?_
          first | refine lw_val rfl (run_assign (v := .int .i64 _) rfl) ?_
          refine lw_nil ?_
          refine cw_seq ?_
          refine cw_seq ?_
          refine cw_region ?_
          first | refine lw_val rfl (run_assign (v := .int .i64 _) rfl) ?_
          refine lw_nil ?_
          refine cw_block ?_
          refine cw_loop (X := Nat) [2, 12, 13, 117, 118, 119, 120, 121, 122, 123, 124, 125, 126, 127, 128, 129, 130, 131, 132, 133, 134, 135, 136, 137, 138, 139, 140, 141, 142, 143, 144, 145, 146, 147, 148, 149, 150, 151, 152, 153, 154, 155, 156, 157, 158, 159, 160, 161] (fun q => [(12, .int .i64 (cntS V2 q : Nat)), (13, .int .i64 (q : Nat))]) (fun q w => q ≤ 4 ∧ Mem g w [own (.slice (some ⟨b30, 0, none⟩) 4 4) (intsL (stL V2)), ViewC p V2]) (fun q => 4 - q) (0) ?_ ?_ ?_
          · exact ⟨rfl, rfl, trivial⟩
          · exact ⟨Nat.zero_le _, hs⟩
          clear hs
          rintro x ξ w hI
          obtain ⟨hq4, hs⟩ := hI
          have hcl := cntS_le V2 x
          have hcn := cntS_next V2 x
          refine cw_seq ?_
          refine cw_seq ?_
          refine cw_region ?_
          first | refine lw_val rfl (run_move (v := .int .i64 _) rfl) ?_
          refine lw_val rfl (run_lss rfl rfl) ?_
          refine lw_nil ?_
          refine cw_if rfl ?_ ?_
          · intro h118
            have g118 := of_decide_eq_true h118
            have hx4 : x < 4 := by omega
            have hsx := intsL_at (stL_at V2 hx4)
            have hrf := refersL hO2 hx4
            refine cw_skip ?_
            refine cw_seq ?_
            refine cw_block ?_
            refine cw_seq ?_
            refine cw_seq ?_
            refine cw_drawS mixes hs ?_
            intro w tr hK
            replace hs := tr _ hs
            clear tr
            first | refine aw_take 0 rfl (by kernel_rfl) (by kernel_rfl) (by kernel_rfl) rfl (fun w hs => run_move (v := .pointer (some _)) rfl) hK ?_ | refine aw_take 0 rfl (by kernel_rfl) (by kernel_rfl) (by kernel_rfl) rfl (fun w hs => run_move (v := .pointer none) rfl) hK ?_ | refine aw_take 0 rfl (by kernel_rfl) (by kernel_rfl) (by kernel_rfl) rfl (fun w hs => run_move (v := .pointer _) rfl) hK ?_
            first | refine aw_take 1 rfl (by kernel_rfl) (by kernel_rfl) (by kernel_rfl) rfl (fun w hs => run_move (v := .int .i64 _) rfl) hK ?_
            first | refine aw_take 3 rfl (by kernel_rfl) (by kernel_rfl) (by kernel_rfl) rfl (fun w hs => run_move (v := .slice _ _ _) rfl) hK ?_
            first | refine aw_take 4 rfl (by kernel_rfl) (by kernel_rfl) (by kernel_rfl) rfl (fun w hs => run_move (v := .int .i64 _) rfl) hK ?_
            refine aw_take 5 rfl (by kernel_rfl) (by kernel_rfl) (by kernel_rfl) rfl (fun w hs => run_indexAddr Tryd.underlying22 sz3 rfl rfl (i := x) rfl (by omega) rfl) hK ?_
            refine aw_take 6 rfl (by kernel_rfl) (by kernel_rfl) (by kernel_rfl) rfl (fun w hs => run_load Tryd.underlying3 rfl rfl (hs.ownAt 0 rfl hsx)) hK ?_
            refine aw_ready [2] (by kernel_rfl) (by simp) ?_
            refine ⟨⟨_, rfl, ?_⟩, trivial⟩
            refine lw_call rfl en16 (state_sl (L := [_]) (hs.arr [1, 0] 2 (by decide)) (x : Int)) ?_
            clear hs
            rintro _ w ⟨rfl, hs⟩
            replace hs := hs.arr [1, 0] 2 (by decide)
            clear hK
            have hK := hs
            refine lw_nil ⟨hK, ?_⟩
            refine aw_take 7 rfl (by kernel_rfl) (by kernel_rfl) (by kernel_rfl) rfl (fun w hs => run_nei rfl rfl) hK ?_
            first | refine aw_take 8 rfl (by kernel_rfl) (by kernel_rfl) (by kernel_rfl) rfl (fun w hs => run_move (v := .bool _) rfl) hK ?_
            first | refine aw_takeOn 9 rfl (by kernel_rfl) (by kernel_rfl) (by kernel_rfl) rfl rfl rfl (not_f (decide_eq_true rfl)) (fun w hs => run_move (v := .pointer (some _)) rfl) hK ?_ | refine aw_takeOn 9 rfl (by kernel_rfl) (by kernel_rfl) (by kernel_rfl) rfl rfl rfl (not_f (decide_eq_true rfl)) (fun w hs => run_move (v := .pointer none) rfl) hK ?_ | refine aw_takeOn 9 rfl (by kernel_rfl) (by kernel_rfl) (by kernel_rfl) rfl rfl rfl (not_f (decide_eq_true rfl)) (fun w hs => run_move (v := .pointer _) rfl) hK ?_
            first | refine aw_takeOn 10 rfl (by kernel_rfl) (by kernel_rfl) (by kernel_rfl) rfl rfl rfl (not_f (decide_eq_true rfl)) (fun w hs => run_move (v := .int .i64 _) rfl) hK ?_
            first | refine aw_takeOn 11 rfl (by kernel_rfl) (by kernel_rfl) (by kernel_rfl) rfl rfl rfl (not_f (decide_eq_true rfl)) (fun w hs => run_move (v := .int .i64 _) rfl) hK ?_
            refine aw_takeOn 12 rfl (by kernel_rfl) (by kernel_rfl) (by kernel_rfl) rfl rfl rfl (not_f (decide_eq_true rfl)) (fun w hs => run_mul64 rfl rfl (c := ((5 * x : Nat) : Int)) (by omega) (inI (by omega) (by omega))) hK ?_
            refine aw_takeOn 13 rfl (by kernel_rfl) (by kernel_rfl) (by kernel_rfl) rfl rfl rfl (not_f (decide_eq_true rfl)) (fun w hs => run_sub64 rfl rfl (c := ((30 - 5 * x : Nat) : Int)) (by omega) (inI (by omega) (by omega))) hK ?_
            first | refine aw_takeOn 20 rfl (by kernel_rfl) (by kernel_rfl) (by kernel_rfl) rfl rfl rfl (not_f (decide_eq_true rfl)) (fun w hs => run_move (v := .slice _ _ _) rfl) hK ?_
            first | refine aw_takeOn 21 rfl (by kernel_rfl) (by kernel_rfl) (by kernel_rfl) rfl rfl rfl (not_f (decide_eq_true rfl)) (fun w hs => run_move (v := .int .i64 _) rfl) hK ?_
            refine aw_takeOn 22 rfl (by kernel_rfl) (by kernel_rfl) (by kernel_rfl) rfl rfl rfl (not_f (decide_eq_true rfl)) (fun w hs => run_indexAddr Tryd.underlying22 sz3 rfl rfl (i := x) rfl (by omega) rfl) hK ?_
            refine aw_takeOn 23 rfl (by kernel_rfl) (by kernel_rfl) (by kernel_rfl) rfl rfl rfl (not_f (decide_eq_true rfl)) (fun w hs => run_load Tryd.underlying3 rfl rfl (hs.ownAt 0 rfl hsx)) hK ?_
            refine aw_takeOn 24 rfl (by kernel_rfl) (by kernel_rfl) (by kernel_rfl) rfl rfl rfl (not_f (decide_eq_true rfl)) (fun w hs => run_eqi rfl rfl) hK ?_
            refine aw_ready [14] (by kernel_rfl) (by simp) ?_
            refine ⟨⟨_, rfl, ?_⟩, trivial⟩
            refine lw_on rfl rfl (not_f (decide_eq_true rfl)) ?_
            refine lw_call rfl en22 (one16_sl hs x (30 - 5 * x) (by omega) (by omega) (oneL x hx4)) ?_
            clear hs
            rintro _ w ⟨s3, s4, rfl, hs⟩
            obtain ⟨b9, o9, sc, rfl, hrk⟩ := hs.obsAt (by show 0 < 2; decide)
            clear hK
            have hK := hs.suffix 2 rfl
            refine lw_nil ⟨hK, ?_⟩
            refine @aw_takeOn _ _ _ _ _ _ _ _ _ _ _ _ _ _ 15 _ _ _ _ _ rfl (by kernel_rfl) (by kernel_rfl) (by kernel_rfl) rfl rfl rfl (not_f (decide_eq_true rfl)) (fun w hs => run_field1 (v := .slice (some ⟨b9, o9, none⟩) 2 sc) Tryd.underlying39 rfl Tryd.isAgg37 rfl rfl) hK ?_
            refine aw_takeOn 16 rfl (by kernel_rfl) (by kernel_rfl) (by kernel_rfl) rfl rfl rfl (not_f (decide_eq_true rfl)) (fun w hs => run_indexAddrK Tryd.underlying37 sz35 rfl rfl (i := 1) rfl (by decide) rfl) hK ?_
            first | refine aw_takeOn 17 rfl (by kernel_rfl) (by kernel_rfl) (by kernel_rfl) rfl rfl rfl (not_f (decide_eq_true rfl)) (fun w hs => run_fieldAddr (o' := 0) Tryd.underlying35 rfl sz9 rfl rfl rfl) hK ?_ | refine aw_takeOn 17 rfl (by kernel_rfl) (by kernel_rfl) (by kernel_rfl) rfl rfl rfl (not_f (decide_eq_true rfl)) (fun w hs => run_fieldAddr Tryd.underlying35 rfl sz9 rfl rfl rfl) hK ?_
            refine aw_ready [18] (by kernel_rfl) (by simp) ?_
            refine ⟨⟨_, rfl, ?_⟩, trivial⟩
            refine lw_on rfl rfl (not_f (decide_eq_true rfl)) ?_
            refine lw_val rfl (run_load Tryd.underlying9 rfl rfl (hrk.cell hs (q := 1) (row := obL (objNm x bMarks (30 - 5 * x), 0, 0)) rfl (j := 0) rfl)) ?_
            clear hK
            have hK := hs.suffix 2 rfl
            refine lw_nil ⟨hK, ?_⟩
            refine aw_ready [19] (by kernel_rfl) (by simp) ?_
            refine ⟨⟨_, rfl, ?_⟩, trivial⟩
            refine lw_on rfl rfl (not_f (decide_eq_true rfl)) ?_
            refine lw_call rfl en13 (refers_sl (L := [_, _, _]) (hs.arr [3, 0, 1, 2] 4 (by decide)) (objNm x bMarks (30 - 5 * x))) ?_
            clear hs
            rintro _ w ⟨rfl, hs⟩
            replace hs := hs.arr [3, 0] 4 (by decide)
            clear hK
            have hK := hs
            refine lw_nil ⟨hK, ?_⟩
            first | refine aw_takeOn 25 rfl (by kernel_rfl) (by kernel_rfl) (by kernel_rfl) rfl rfl rfl (not_f (decide_eq_true rfl)) (fun w hs => run_move (v := .bool _) rfl) hK ?_
            refine aw_split (t := _) (d := 146) rfl ?_ ?_
            · intro h145
              have g145 := of_decide_eq_true h145
              refine aw_takeOff 26 rfl (by kernel_rfl) (by kernel_rfl) (by kernel_rfl) rfl rfl rfl h145 hK ?_
              refine aw_takeOff 27 rfl (by kernel_rfl) (by kernel_rfl) (by kernel_rfl) rfl rfl rfl h145 hK ?_
              refine aw_takeOff 28 rfl (by kernel_rfl) (by kernel_rfl) (by kernel_rfl) rfl rfl rfl h145 hK ?_
              refine aw_takeOff 29 rfl (by kernel_rfl) (by kernel_rfl) (by kernel_rfl) rfl rfl rfl h145 hK ?_
              refine aw_takeOff 30 rfl (by kernel_rfl) (by kernel_rfl) (by kernel_rfl) rfl rfl rfl h145 hK ?_
              first | refine aw_takeOn 31 rfl (by kernel_rfl) (by kernel_rfl) (by kernel_rfl) rfl rfl rfl (not_f (decide_eq_true rfl)) (fun w hs => run_pickT (v := .bool _) rfl h145 rfl) hK ?_
              refine aw_takeOn 32 rfl (by kernel_rfl) (by kernel_rfl) (by kernel_rfl) rfl rfl rfl (not_f (decide_eq_true rfl)) (fun w hs => run_neb Tryd.underlying4 rfl rfl) hK ?_
              first | refine aw_take 33 rfl (by kernel_rfl) (by kernel_rfl) (by kernel_rfl) rfl (fun w hs => run_pickF (v := .bool _) rfl (not_f (decide_eq_true rfl)) rfl) hK ?_
              refine aw_done (by kernel_rfl) ?_
              clear hK
              refine cw_iff rfl (by rw [hrf, decide_eq_true g145]; rfl) ?_
              refine cw_skip ?_
              refine cw_seq ?_
              refine cw_region ?_
              first | refine lw_val rfl (run_move (v := .slice _ _ _) rfl) ?_
              first | refine lw_val rfl (run_move (v := .int .i64 _) rfl) ?_
              refine lw_val rfl (run_indexAddr Tryd.underlying22 sz3 rfl rfl (i := x) rfl (by omega) rfl) ?_
              refine lw_val rfl (run_load Tryd.underlying3 rfl rfl (hs.ownAt 0 rfl hsx)) ?_
              refine lw_val rfl (run_eqi rfl rfl) ?_
              refine lw_nil ?_
              refine cw_if rfl ?_ ?_
              · intro h159
                have g159 := of_decide_eq_true h159
                refine cw_region ?_
                first | refine lw_val rfl (run_move (v := .int .i64 _) rfl) ?_
                refine lw_val rfl (run_add64 rfl rfl rfl (inI (by omega) (by omega))) ?_
                first | refine lw_val rfl (run_assign (v := .int .i64 _) rfl) ?_
                refine lw_nil ?_
                refine cw_region ?_
                first | refine lw_val rfl (run_move (v := .int .i64 _) rfl) ?_
                refine lw_val rfl (run_add64 rfl rfl rfl (inI (by omega) (by omega))) ?_
                first | refine lw_val rfl (run_assign (v := .int .i64 _) rfl) ?_
                refine lw_nil ?_
                rw [if_pos g159] at hcn
                exact ⟨x + 1, by omega, ⟨by omega, hs⟩, ⟨by rw [hcn]; rfl, rfl, trivial⟩, by repeat (first | exact Out.mix _ _ _ | refine Out.updo rfl ?_ | refine Out.upd rfl ?_ | refine Out.mixIn rfl ?_)⟩
              · intro h159
                have g159 := of_decide_eq_false h159
                refine cw_skip ?_
                refine cw_region ?_
                first | refine lw_val rfl (run_move (v := .int .i64 _) rfl) ?_
                refine lw_val rfl (run_add64 rfl rfl rfl (inI (by omega) (by omega))) ?_
                first | refine lw_val rfl (run_assign (v := .int .i64 _) rfl) ?_
                refine lw_nil ?_
                rw [if_neg g159] at hcn
                exact ⟨x + 1, by omega, ⟨by omega, hs⟩, ⟨by rw [hcn]; rfl, rfl, trivial⟩, by repeat (first | exact Out.mix _ _ _ | refine Out.updo rfl ?_ | refine Out.upd rfl ?_ | refine Out.mixIn rfl ?_)⟩
            · intro h145
              have g145 := of_decide_eq_false h145
              first | refine aw_takeOn 26 rfl (by kernel_rfl) (by kernel_rfl) (by kernel_rfl) rfl rfl rfl h145 (fun w hs => run_move (v := .slice _ _ _) rfl) hK ?_
              first | refine aw_takeOn 27 rfl (by kernel_rfl) (by kernel_rfl) (by kernel_rfl) rfl rfl rfl h145 (fun w hs => run_move (v := .int .i64 _) rfl) hK ?_
              refine aw_takeOn 28 rfl (by kernel_rfl) (by kernel_rfl) (by kernel_rfl) rfl rfl rfl h145 (fun w hs => run_indexAddr Tryd.underlying22 sz3 rfl rfl (i := x) rfl (by omega) rfl) hK ?_
              refine aw_takeOn 29 rfl (by kernel_rfl) (by kernel_rfl) (by kernel_rfl) rfl rfl rfl h145 (fun w hs => run_load Tryd.underlying3 rfl rfl (hs.ownAt 0 rfl hsx)) hK ?_
              refine aw_takeOn 30 rfl (by kernel_rfl) (by kernel_rfl) (by kernel_rfl) rfl rfl rfl h145 (fun w hs => run_eqi rfl rfl) hK ?_
              first | refine aw_takeOn 31 rfl (by kernel_rfl) (by kernel_rfl) (by kernel_rfl) rfl rfl rfl (not_f (decide_eq_true rfl)) (fun w hs => run_pickF (v := .bool _) rfl h145 rfl) hK ?_
              refine aw_takeOn 32 rfl (by kernel_rfl) (by kernel_rfl) (by kernel_rfl) rfl rfl rfl (not_f (decide_eq_true rfl)) (fun w hs => run_neb Tryd.underlying4 rfl rfl) hK ?_
              first | refine aw_take 33 rfl (by kernel_rfl) (by kernel_rfl) (by kernel_rfl) rfl (fun w hs => run_pickF (v := .bool _) rfl (not_f (decide_eq_true rfl)) rfl) hK ?_
              refine aw_done (by kernel_rfl) ?_
              clear hK
              refine cw_iff rfl (by rw [hrf, decide_eq_false g145]; simp) ?_
              refine cw_skip ?_
              refine cw_seq ?_
              refine cw_region ?_
              first | refine lw_val rfl (run_move (v := .slice _ _ _) rfl) ?_
              first | refine lw_val rfl (run_move (v := .int .i64 _) rfl) ?_
              refine lw_val rfl (run_indexAddr Tryd.underlying22 sz3 rfl rfl (i := x) rfl (by omega) rfl) ?_
              refine lw_val rfl (run_load Tryd.underlying3 rfl rfl (hs.ownAt 0 rfl hsx)) ?_
              refine lw_val rfl (run_eqi rfl rfl) ?_
              refine lw_nil ?_
              refine cw_if rfl ?_ ?_
              · intro h159
                have g159 := of_decide_eq_true h159
                refine cw_region ?_
                first | refine lw_val rfl (run_move (v := .int .i64 _) rfl) ?_
                refine lw_val rfl (run_add64 rfl rfl rfl (inI (by omega) (by omega))) ?_
                first | refine lw_val rfl (run_assign (v := .int .i64 _) rfl) ?_
                refine lw_nil ?_
                refine cw_region ?_
                first | refine lw_val rfl (run_move (v := .int .i64 _) rfl) ?_
                refine lw_val rfl (run_add64 rfl rfl rfl (inI (by omega) (by omega))) ?_
                first | refine lw_val rfl (run_assign (v := .int .i64 _) rfl) ?_
                refine lw_nil ?_
                rw [if_pos g159] at hcn
                exact ⟨x + 1, by omega, ⟨by omega, hs⟩, ⟨by rw [hcn]; rfl, rfl, trivial⟩, by repeat (first | exact Out.mix _ _ _ | refine Out.updo rfl ?_ | refine Out.upd rfl ?_ | refine Out.mixIn rfl ?_)⟩
              · intro h159
                have g159 := of_decide_eq_false h159
                refine cw_skip ?_
                refine cw_region ?_
                first | refine lw_val rfl (run_move (v := .int .i64 _) rfl) ?_
                refine lw_val rfl (run_add64 rfl rfl rfl (inI (by omega) (by omega))) ?_
                first | refine lw_val rfl (run_assign (v := .int .i64 _) rfl) ?_
                refine lw_nil ?_
                rw [if_neg g159] at hcn
                exact ⟨x + 1, by omega, ⟨by omega, hs⟩, ⟨by rw [hcn]; rfl, rfl, trivial⟩, by repeat (first | exact Out.mix _ _ _ | refine Out.updo rfl ?_ | refine Out.upd rfl ?_ | refine Out.mixIn rfl ?_)⟩
          · intro h118
            have g118 := of_decide_eq_false h118
            obtain rfl : x = 4 := by omega
            refine cw_exit rfl ?_
            refine cw_seq ?_
            refine cw_region ?_
            first | refine lw_val rfl (run_move (v := .pointer (some _)) rfl) ?_ | refine lw_val rfl (run_move (v := .pointer none) rfl) ?_ | refine lw_val rfl (run_move (v := .pointer _) rfl) ?_
            refine lw_buildSlice hs rfl ((intsL [2])) Tryd.underlying22 zs3 rfl (cells_one (intsL_one _)) rfl rfl rfl ?_
            clear hs
            intro b163 w hs
            try simp only [List.set_cons_succ, List.set_cons_zero] at hs
            refine lw_call rfl en25 (viewIn_sl (L := [_, _]) (l := [2]) (hs.arr [2, 0, 1] 3 (by decide)) (Rd.cells (n := 1) 0 rfl rfl) rfl (by decide)) ?_
            clear hs
            rintro _ w ⟨⟨sa, sc⟩, ts, rfl, hp, hpw, hs⟩
            have htl : ts.length = cntS V2 4 := by have h1 := hp.length_eq; rw [List.length_map, hO2.count 2 (by decide)] at h1; exact h1
            have hrk := fun (L : List HP) => RdK.row (g := g) (L := rowK 6 (.slice sa ts.length sc) (ts.map t3L) :: L) 0 rfl
            first | refine lw_val rfl (run_assign (v := .slice _ _ _) rfl) ?_
            refine lw_nil ?_
            refine cw_seq ?_
            refine cw_seq ?_
            refine cw_region ?_
            first | refine lw_val rfl (run_assign (v := .int .i64 _) rfl) ?_
            refine lw_nil ?_
            refine cw_block ?_
            refine cw_loop (X := Nat) [2, 15, 165, 166, 167, 168, 169, 170, 171, 172, 173, 174, 175, 176, 177, 178, 179, 180, 181, 182] (fun q => [(15, .int .i64 (q : Nat))]) (fun q w => 1 ≤ q ∧ Mem g w [rowK 6 (.slice sa ts.length sc) (ts.map t3L), own (.slice (some ⟨b30, 0, none⟩) 4 4) (intsL (stL V2)), ViewC p V2]) (fun q => ts.length - q) (1) ?_ ?_ ?_
            · exact ⟨rfl, trivial⟩
            · exact ⟨Nat.le_refl _, hs.arr [0, 4, 2] 5 (by decide)⟩
            clear hs
            rintro x ξ w hI
            obtain ⟨hq1, hs⟩ := hI
            refine cw_seq ?_
            refine cw_seq ?_
            refine cw_region ?_
            first | refine lw_val rfl (run_move (v := .int .i64 _) rfl) ?_
            first | refine lw_val rfl (run_move (v := .slice _ _ _) rfl) ?_
            refine lw_val rfl (run_lenS Tryd.underlying54 rfl) ?_
            refine lw_val rfl (run_lss rfl rfl) ?_
            refine lw_nil ?_
            refine cw_if rfl ?_ ?_
            · intro h168
              have g168 := of_decide_eq_true h168
              obtain ⟨y, hy⟩ : ∃ y, ts[x]? = some y := ⟨_, List.getElem?_eq_getElem (by omega)⟩
              obtain ⟨y0, hy0⟩ : ∃ y, ts[x - 1]? = some y := ⟨_, List.getElem?_eq_getElem (by omega)⟩
              obtain ⟨b1, o1, rfl⟩ := (hrk _).at hs (by rw [List.length_map]; omega)
              have hri := hO2.rise bL_falls hp hpw (t3M_at hy0) (by rw [show x - 1 + 1 = x by omega]; exact t3M_at hy)
              refine cw_skip ?_
              refine cw_seq ?_
              refine cw_block ?_
              refine cw_seq ?_
              refine cw_drawS mixes hs ?_
              intro w tr hK
              replace hs := tr _ hs
              clear tr
              first | refine aw_take 0 rfl (by kernel_rfl) (by kernel_rfl) (by kernel_rfl) rfl (fun w hs => run_move (v := .slice _ _ _) rfl) hK ?_
              first | refine aw_take 1 rfl (by kernel_rfl) (by kernel_rfl) (by kernel_rfl) rfl (fun w hs => run_move (v := .int .i64 _) rfl) hK ?_
              refine aw_take 2 rfl (by kernel_rfl) (by kernel_rfl) (by kernel_rfl) rfl (fun w hs => run_indexAddrK Tryd.underlying54 sz39 rfl rfl rfl (by omega) rfl) hK ?_
              first | refine aw_take 3 rfl (by kernel_rfl) (by kernel_rfl) (by kernel_rfl) rfl (fun w hs => run_fieldAddr (o' := 1) Tryd.underlying39 rfl sz2 rfl rfl rfl) hK ?_ | refine aw_take 3 rfl (by kernel_rfl) (by kernel_rfl) (by kernel_rfl) rfl (fun w hs => run_fieldAddr Tryd.underlying39 rfl sz2 rfl rfl rfl) hK ?_
              refine aw_take 4 rfl (by kernel_rfl) (by kernel_rfl) (by kernel_rfl) rfl (fun w hs => run_load Tryd.underlying2 rfl rfl ((hrk _).cell hs (t3L_at hy) (j := 1) rfl)) hK ?_
              first | refine aw_take 5 rfl (by kernel_rfl) (by kernel_rfl) (by kernel_rfl) rfl (fun w hs => run_move (v := .slice _ _ _) rfl) hK ?_
              first | refine aw_take 6 rfl (by kernel_rfl) (by kernel_rfl) (by kernel_rfl) rfl (fun w hs => run_move (v := .int .i64 _) rfl) hK ?_
              refine aw_take 7 rfl (by kernel_rfl) (by kernel_rfl) (by kernel_rfl) rfl (fun w hs => run_sub64 rfl rfl (c := ((x - 1 : Nat) : Int)) (by omega) (inI (by omega) (by omega))) hK ?_
              refine aw_take 8 rfl (by kernel_rfl) (by kernel_rfl) (by kernel_rfl) rfl (fun w hs => run_indexAddrK Tryd.underlying54 sz39 rfl rfl rfl (by omega) rfl) hK ?_
              first | refine aw_take 9 rfl (by kernel_rfl) (by kernel_rfl) (by kernel_rfl) rfl (fun w hs => run_fieldAddr (o' := 1) Tryd.underlying39 rfl sz2 rfl rfl rfl) hK ?_ | refine aw_take 9 rfl (by kernel_rfl) (by kernel_rfl) (by kernel_rfl) rfl (fun w hs => run_fieldAddr Tryd.underlying39 rfl sz2 rfl rfl rfl) hK ?_
              refine aw_take 10 rfl (by kernel_rfl) (by kernel_rfl) (by kernel_rfl) rfl (fun w hs => run_load Tryd.underlying2 rfl rfl ((hrk _).cell hs (t3L_at hy0) (j := 1) rfl)) hK ?_
              refine aw_take 11 rfl (by kernel_rfl) (by kernel_rfl) (by kernel_rfl) rfl (fun w hs => run_leq rfl rfl) hK ?_
              refine aw_done (by kernel_rfl) ?_
              clear hK
              refine cw_iff rfl (decide_eq_false (by omega)) ?_
              refine cw_skip ?_
              refine cw_region ?_
              first | refine lw_val rfl (run_move (v := .int .i64 _) rfl) ?_
              refine lw_val rfl (run_add64 rfl rfl rfl (inI (by omega) (by omega))) ?_
              first | refine lw_val rfl (run_assign (v := .int .i64 _) rfl) ?_
              refine lw_nil ?_
              exact ⟨x + 1, by omega, ⟨by omega, hs⟩, ⟨rfl, trivial⟩, by repeat (first | exact Out.mix _ _ _ | refine Out.updo rfl ?_ | refine Out.upd rfl ?_ | refine Out.mixIn rfl ?_)⟩
            · intro h168
              have g168 := of_decide_eq_false h168
              refine cw_exit rfl ?_
              refine cw_seq ?_
              refine cw_region ?_
              first | refine lw_val rfl (run_move (v := .slice _ _ _) rfl) ?_
              refine lw_val rfl (run_lenS Tryd.underlying54 rfl) ?_
              first | refine lw_val rfl (run_move (v := .int .i64 _) rfl) ?_
              refine lw_val rfl (run_nei rfl rfl) ?_
              refine lw_nil ?_
              refine cw_iff rfl (not_f (decide_eq_true (by rw [htl]))) ?_
              refine cw_skip ?_
              refine cw_region ?_
              first | refine lw_val rfl (run_move (v := .int .i64 _) rfl) ?_
              refine lw_val rfl (run_add64 rfl rfl rfl (inI (by omega) (by omega))) ?_
              first | refine lw_val rfl (run_assign (v := .int .i64 _) rfl) ?_
              refine lw_nil ?_
              exact ⟨(k + 1, V2), by simp only; omega, ⟨by simp only; omega, hO2, hs.suffix 1 rfl⟩, ⟨rfl, trivial⟩, by repeat (first | exact Out.mix _ _ _ | refine Out.updo rfl ?_ | refine Out.upd rfl ?_ | refine Out.mixIn rfl ?_)⟩
        · skip
          refine cw_region ?_
          first | refine lw_val rfl (run_move (v := .pointer (some _)) rfl) ?_ | refine lw_val rfl (run_move (v := .pointer none) rfl) ?_ | refine lw_val rfl (run_move (v := .pointer _) rfl) ?_
          first | refine lw_val rfl (run_move (v := .int .i64 _) rfl) ?_
          first | refine lw_val rfl (run_loadRow hs 0 rfl Tryd.underlying39 sz39 rfl) ?_ | refine lw_val rfl (run_loadRow hs 1 rfl Tryd.underlying39 sz39 rfl) ?_ | refine lw_val rfl (run_loadRow hs 2 rfl Tryd.underlying39 sz39 rfl) ?_ | refine lw_val rfl (run_loadRow hs 3 rfl Tryd.underlying39 sz39 rfl) ?_ | refine lw_val rfl (run_loadRow hs 4 rfl Tryd.underlying39 sz39 rfl) ?_ | refine lw_val rfl (run_loadRow hs 5 rfl Tryd.underlying39 sz39 rfl) ?_ | refine lw_val rfl (run_loadRow hs 6 rfl Tryd.underlying39 sz39 rfl) ?_ | refine lw_val rfl (run_loadRow hs 7 rfl Tryd.underlying39 sz39 rfl) ?_ | refine lw_val rfl (run_loadRow hs 8 rfl Tryd.underlying39 sz39 rfl) ?_ | refine lw_val rfl (run_loadRow hs 9 rfl Tryd.underlying39 sz39 rfl) ?_ | refine lw_val rfl (run_loadRow hs 10 rfl Tryd.underlying39 sz39 rfl) ?_ | refine lw_val rfl (run_loadRow hs 11 rfl Tryd.underlying39 sz39 rfl) ?_ | refine lw_val rfl (run_loadRow hs 12 rfl Tryd.underlying39 sz39 rfl) ?_ | refine lw_val rfl (run_loadRow hs 13 rfl Tryd.underlying39 sz39 rfl) ?_
          refine lw_val rfl (run_buildKM (k := (kd : Int) + 1) (m := oneM id (30 - 5 * id)) (e := s1) (o := s2) Tryd.underlying52 ze52 pl52 rfl rfl) ?_
          refine lw_call rfl en23 (applyB_sl hE hs (i := 4) rfl ((kd : Int) + 1) (x := oneM id (30 - 5 * id)) (s1 := s1) (s2 := s2) (MfR.own 1 2 rfl rfl) (by simp [oneM]) (hap.trans (if_neg (by rw [hnb]; decide)))) ?_
          clear hs
          rintro _ w ⟨rfl, hs⟩
          first | refine lw_val rfl (run_assign (v := errV ad _) rfl) ?_ | refine lw_val rfl (run_assign (v := .nilIface) rfl) ?_ | refine lw_val rfl (run_assign (v := eV ad _ _) rfl) ?_ | refine lw_val rfl (run_assign (v := .iface _ (.pointer (some _))) rfl) ?_ | refine lw_val rfl (run_assign (v := flV ad _ _) rfl) ?_
          refine lw_nil ?_
          refine cw_seq ?_
          refine cw_seq ?_
          refine cw_region ?_
          first | refine lw_val rfl (run_move (v := errV ad _) rfl) ?_ | refine lw_val rfl (run_move (v := .nilIface) rfl) ?_ | refine lw_val rfl (run_move (v := eV ad _ _) rfl) ?_ | refine lw_val rfl (run_move (v := .iface _ (.pointer (some _))) rfl) ?_ | refine lw_val rfl (run_move (v := flV ad _ _) rfl) ?_
          first | refine lw_val rfl (run_eqerrn (ad := ad) rfl) ?_ | refine lw_val rfl (run_eqnn rfl) ?_ | refine lw_val rfl (run_eqE (ad := ad) rfl) ?_
          first | refine lw_val rfl (run_move (v := .bool _) rfl) ?_
          refine lw_val rfl (run_neb Tryd.underlying4 rfl rfl) ?_
          refine lw_nil ?_
          refine cw_iff rfl (by rw [hnb]; rfl) ?_
          refine cw_skip ?_
          refine cw_seq ?_
          refine cw_seq ?_
          refine cw_region ?_
          first | refine lw_val rfl (run_move (v := .bool _) rfl) ?_
          refine lw_nil ?_
          refine cw_iff rfl (hnb) ?_
          refine cw_skip ?_
          refine cw_seq ?_
          obtain ⟨V2, hV2⟩ : ∃ V2, V2 = V := ⟨_, rfl⟩
          have hO2 : OnV bL 4 V2 := by rw [hV2]; exact hO
          rw [← hV2] at hs
          replace hs := hs.arr [4, 0] 5 (by decide)
          clear hnb
          refine cw_region ?_
          first | refine lw_val rfl (run_assign (v := .int .i64 _) rfl) ?_
          refine lw_nil ?_
          refine cw_seq ?_
          refine cw_seq ?_
          refine cw_region ?_
          first | refine lw_val rfl (run_assign (v := .int .i64 _) rfl) ?_
          refine lw_nil ?_
          refine cw_block ?_
          refine cw_loop (X := Nat) [2, 12, 13, 117, 118, 119, 120, 121, 122, 123, 124, 125, 126, 127, 128, 129, 130, 131, 132, 133, 134, 135, 136, 137, 138, 139, 140, 141, 142, 143, 144, 145, 146, 147, 148, 149, 150, 151, 152, 153, 154, 155, 156, 157, 158, 159, 160, 161] (fun q => [(12, .int .i64 (cntS V2 q : Nat)), (13, .int .i64 (q : Nat))]) (fun q w => q ≤ 4 ∧ Mem g w [own (.slice (some ⟨b30, 0, none⟩) 4 4) (intsL (stL V2)), ViewC p V2]) (fun q => 4 - q) (0) ?_ ?_ ?_
          · exact ⟨rfl, rfl, trivial⟩
          · exact ⟨Nat.zero_le _, hs⟩
          clear hs
          rintro x ξ w hI
          obtain ⟨hq4, hs⟩ := hI
          have hcl := cntS_le V2 x
          have hcn := cntS_next V2 x
          refine cw_seq ?_
          refine cw_seq ?_
          refine cw_region ?_
          first | refine lw_val rfl (run_move (v := .int .i64 _) rfl) ?_
          refine lw_val rfl (run_lss rfl rfl) ?_
          refine lw_nil ?_
          refine cw_if rfl ?_ ?_
          · intro h118
            have g118 := of_decide_eq_true h118
            have hx4 : x < 4 := by omega
            have hsx := intsL_at (stL_at V2 hx4)
            have hrf := refersL hO2 hx4
            refine cw_skip ?_
            refine cw_seq ?_
            refine cw_block ?_
            refine cw_seq ?_
            refine cw_seq ?_
            refine cw_drawS mixes hs ?_
            intro w tr hK
            replace hs := tr _ hs
            clear tr
            first | refine aw_take 0 rfl (by kernel_rfl) (by kernel_rfl) (by kernel_rfl) rfl (fun w hs => run_move (v := .pointer (some _)) rfl) hK ?_ | refine aw_take 0 rfl (by kernel_rfl) (by kernel_rfl) (by kernel_rfl) rfl (fun w hs => run_move (v := .pointer none) rfl) hK ?_ | refine aw_take 0 rfl (by kernel_rfl) (by kernel_rfl) (by kernel_rfl) rfl (fun w hs => run_move (v := .pointer _) rfl) hK ?_
            first | refine aw_take 1 rfl (by kernel_rfl) (by kernel_rfl) (by kernel_rfl) rfl (fun w hs => run_move (v := .int .i64 _) rfl) hK ?_
            first | refine aw_take 3 rfl (by kernel_rfl) (by kernel_rfl) (by kernel_rfl) rfl (fun w hs => run_move (v := .slice _ _ _) rfl) hK ?_
            first | refine aw_take 4 rfl (by kernel_rfl) (by kernel_rfl) (by kernel_rfl) rfl (fun w hs => run_move (v := .int .i64 _) rfl) hK ?_
            refine aw_take 5 rfl (by kernel_rfl) (by kernel_rfl) (by kernel_rfl) rfl (fun w hs => run_indexAddr Tryd.underlying22 sz3 rfl rfl (i := x) rfl (by omega) rfl) hK ?_
            refine aw_take 6 rfl (by kernel_rfl) (by kernel_rfl) (by kernel_rfl) rfl (fun w hs => run_load Tryd.underlying3 rfl rfl (hs.ownAt 0 rfl hsx)) hK ?_
            refine aw_ready [2] (by kernel_rfl) (by simp) ?_
            refine ⟨⟨_, rfl, ?_⟩, trivial⟩
            refine lw_call rfl en16 (state_sl (L := [_]) (hs.arr [1, 0] 2 (by decide)) (x : Int)) ?_
            clear hs
            rintro _ w ⟨rfl, hs⟩
            replace hs := hs.arr [1, 0] 2 (by decide)
            clear hK
            have hK := hs
            refine lw_nil ⟨hK, ?_⟩
            refine aw_take 7 rfl (by kernel_rfl) (by kernel_rfl) (by kernel_rfl) rfl (fun w hs => run_nei rfl rfl) hK ?_
            first | refine aw_take 8 rfl (by kernel_rfl) (by kernel_rfl) (by kernel_rfl) rfl (fun w hs => run_move (v := .bool _) rfl) hK ?_
            first | refine aw_takeOn 9 rfl (by kernel_rfl) (by kernel_rfl) (by kernel_rfl) rfl rfl rfl (not_f (decide_eq_true rfl)) (fun w hs => run_move (v := .pointer (some _)) rfl) hK ?_ | refine aw_takeOn 9 rfl (by kernel_rfl) (by kernel_rfl) (by kernel_rfl) rfl rfl rfl (not_f (decide_eq_true rfl)) (fun w hs => run_move (v := .pointer none) rfl) hK ?_ | refine aw_takeOn 9 rfl (by kernel_rfl) (by kernel_rfl) (by kernel_rfl) rfl rfl rfl (not_f (decide_eq_true rfl)) (fun w hs => run_move (v := .pointer _) rfl) hK ?_
            first | refine aw_takeOn 10 rfl (by kernel_rfl) (by kernel_rfl) (by kernel_rfl) rfl rfl rfl (not_f (decide_eq_true rfl)) (fun w hs => run_move (v := .int .i64 _) rfl) hK ?_
            first | refine aw_takeOn 11 rfl (by kernel_rfl) (by kernel_rfl) (by kernel_rfl) rfl rfl rfl (not_f (decide_eq_true rfl)) (fun w hs => run_move (v := .int .i64 _) rfl) hK ?_
            refine aw_takeOn 12 rfl (by kernel_rfl) (by kernel_rfl) (by kernel_rfl) rfl rfl rfl (not_f (decide_eq_true rfl)) (fun w hs => run_mul64 rfl rfl (c := ((5 * x : Nat) : Int)) (by omega) (inI (by omega) (by omega))) hK ?_
            refine aw_takeOn 13 rfl (by kernel_rfl) (by kernel_rfl) (by kernel_rfl) rfl rfl rfl (not_f (decide_eq_true rfl)) (fun w hs => run_sub64 rfl rfl (c := ((30 - 5 * x : Nat) : Int)) (by omega) (inI (by omega) (by omega))) hK ?_
            first | refine aw_takeOn 20 rfl (by kernel_rfl) (by kernel_rfl) (by kernel_rfl) rfl rfl rfl (not_f (decide_eq_true rfl)) (fun w hs => run_move (v := .slice _ _ _) rfl) hK ?_
            first | refine aw_takeOn 21 rfl (by kernel_rfl) (by kernel_rfl) (by kernel_rfl) rfl rfl rfl (not_f (decide_eq_true rfl)) (fun w hs => run_move (v := .int .i64 _) rfl) hK ?_
            refine aw_takeOn 22 rfl (by kernel_rfl) (by kernel_rfl) (by kernel_rfl) rfl rfl rfl (not_f (decide_eq_true rfl)) (fun w hs => run_indexAddr Tryd.underlying22 sz3 rfl rfl (i := x) rfl (by omega) rfl) hK ?_
            refine aw_takeOn 23 rfl (by kernel_rfl) (by kernel_rfl) (by kernel_rfl) rfl rfl rfl (not_f (decide_eq_true rfl)) (fun w hs => run_load Tryd.underlying3 rfl rfl (hs.ownAt 0 rfl hsx)) hK ?_
            refine aw_takeOn 24 rfl (by kernel_rfl) (by kernel_rfl) (by kernel_rfl) rfl rfl rfl (not_f (decide_eq_true rfl)) (fun w hs => run_eqi rfl rfl) hK ?_
            refine aw_ready [14] (by kernel_rfl) (by simp) ?_
            refine ⟨⟨_, rfl, ?_⟩, trivial⟩
            refine lw_on rfl rfl (not_f (decide_eq_true rfl)) ?_
            refine lw_call rfl en22 (one16_sl hs x (30 - 5 * x) (by omega) (by omega) (oneL x hx4)) ?_
            clear hs
            rintro _ w ⟨s3, s4, rfl, hs⟩
            obtain ⟨b9, o9, sc, rfl, hrk⟩ := hs.obsAt (by show 0 < 2; decide)
            clear hK
            have hK := hs.suffix 2 rfl
            refine lw_nil ⟨hK, ?_⟩
            refine @aw_takeOn _ _ _ _ _ _ _ _ _ _ _ _ _ _ 15 _ _ _ _ _ rfl (by kernel_rfl) (by kernel_rfl) (by kernel_rfl) rfl rfl rfl (not_f (decide_eq_true rfl)) (fun w hs => run_field1 (v := .slice (some ⟨b9, o9, none⟩) 2 sc) Tryd.underlying39 rfl Tryd.isAgg37 rfl rfl) hK ?_
            refine aw_takeOn 16 rfl (by kernel_rfl) (by kernel_rfl) (by kernel_rfl) rfl rfl rfl (not_f (decide_eq_true rfl)) (fun w hs => run_indexAddrK Tryd.underlying37 sz35 rfl rfl (i := 1) rfl (by decide) rfl) hK ?_
            first | refine aw_takeOn 17 rfl (by kernel_rfl) (by kernel_rfl) (by kernel_rfl) rfl rfl rfl (not_f (decide_eq_true rfl)) (fun w hs => run_fieldAddr (o' := 0) Tryd.underlying35 rfl sz9 rfl rfl rfl) hK ?_ | refine aw_takeOn 17 rfl (by kernel_rfl) (by kernel_rfl) (by kernel_rfl) rfl rfl rfl (not_f (decide_eq_true rfl)) (fun w hs => run_fieldAddr Tryd.underlying35 rfl sz9 rfl rfl rfl) hK ?_
            refine aw_ready [18] (by kernel_rfl) (by simp) ?_
            refine ⟨⟨_, rfl, ?_⟩, trivial⟩
            refine lw_on rfl rfl (not_f (decide_eq_true rfl)) ?_
            refine lw_val rfl (run_load Tryd.underlying9 rfl rfl (hrk.cell hs (q := 1) (row := obL (objNm x bMarks (30 - 5 * x), 0, 0)) rfl (j := 0) rfl)) ?_
            clear hK
            have hK := hs.suffix 2 rfl
            refine lw_nil ⟨hK, ?_⟩
            refine aw_ready [19] (by kernel_rfl) (by simp) ?_
            refine ⟨⟨_, rfl, ?_⟩, trivial⟩
            refine lw_on rfl rfl (not_f (decide_eq_true rfl)) ?_
            refine lw_call rfl en13 (refers_sl (L := [_, _, _]) (hs.arr [3, 0, 1, 2] 4 (by decide)) (objNm x bMarks (30 - 5 * x))) ?_
            clear hs
            rintro _ w ⟨rfl, hs⟩
            replace hs := hs.arr [3, 0] 4 (by decide)
            clear hK
            have hK := hs
            refine lw_nil ⟨hK, ?_⟩
            first | refine aw_takeOn 25 rfl (by kernel_rfl) (by kernel_rfl) (by kernel_rfl) rfl rfl rfl (not_f (decide_eq_true rfl)) (fun w hs => run_move (v := .bool _) rfl) hK ?_
            refine aw_split (t := _) (d := 146) rfl ?_ ?_
            · intro h145
              have g145 := of_decide_eq_true h145
              refine aw_takeOff 26 rfl (by kernel_rfl) (by kernel_rfl) (by kernel_rfl) rfl rfl rfl h145 hK ?_
              refine aw_takeOff 27 rfl (by kernel_rfl) (by kernel_rfl) (by kernel_rfl) rfl rfl rfl h145 hK ?_
              refine aw_takeOff 28 rfl (by kernel_rfl) (by kernel_rfl) (by kernel_rfl) rfl rfl rfl h145 hK ?_
              refine aw_takeOff 29 rfl (by kernel_rfl) (by kernel_rfl) (by kernel_rfl) rfl rfl rfl h145 hK ?_
              refine aw_takeOff 30 rfl (by kernel_rfl) (by kernel_rfl) (by kernel_rfl) rfl rfl rfl h145 hK ?_
              first | refine aw_takeOn 31 rfl (by kernel_rfl) (by kernel_rfl) (by kernel_rfl) rfl rfl rfl (not_f (decide_eq_true rfl)) (fun w hs => run_pickT (v := .bool _) rfl h145 rfl) hK ?_
              refine aw_takeOn 32 rfl (by kernel_rfl) (by kernel_rfl) (by kernel_rfl) rfl rfl rfl (not_f (decide_eq_true rfl)) (fun w hs => run_neb Tryd.underlying4 rfl rfl) hK ?_
              first | refine aw_take 33 rfl (by kernel_rfl) (by kernel_rfl) (by kernel_rfl) rfl (fun w hs => run_pickF (v := .bool _) rfl (not_f (decide_eq_true rfl)) rfl) hK ?_
              refine aw_done (by kernel_rfl) ?_
              clear hK
              refine cw_iff rfl (by rw [hrf, decide_eq_true g145]; rfl) ?_
              refine cw_skip ?_
              refine cw_seq ?_
              refine cw_region ?_
              first | refine lw_val rfl (run_move (v := .slice _ _ _) rfl) ?_
              first | refine lw_val rfl (run_move (v := .int .i64 _) rfl) ?_
              refine lw_val rfl (run_indexAddr Tryd.underlying22 sz3 rfl rfl (i := x) rfl (by omega) rfl) ?_
              refine lw_val rfl (run_load Tryd.underlying3 rfl rfl (hs.ownAt 0 rfl hsx)) ?_
              refine lw_val rfl (run_eqi rfl rfl) ?_
              refine lw_nil ?_
              refine cw_if rfl ?_ ?_
              · intro h159
                have g159 := of_decide_eq_true h159
                refine cw_region ?_
                first | refine lw_val rfl (run_move (v := .int .i64 _) rfl) ?_
                refine lw_val rfl (run_add64 rfl rfl rfl (inI (by omega) (by omega))) ?_
                first | refine lw_val rfl (run_assign (v := .int .i64 _) rfl) ?_
                refine lw_nil ?_
                refine cw_region ?_
                first | refine lw_val rfl (run_move (v := .int .i64 _) rfl) ?_
                refine lw_val rfl (run_add64 rfl rfl rfl (inI (by omega) (by omega))) ?_
                first | refine lw_val rfl (run_assign (v := .int .i64 _) rfl) ?_
                refine lw_nil ?_
                rw [if_pos g159] at hcn
                exact ⟨x + 1, by omega, ⟨by omega, hs⟩, ⟨by rw [hcn]; rfl, rfl, trivial⟩, by repeat (first | exact Out.mix _ _ _ | refine Out.updo rfl ?_ | refine Out.upd rfl ?_ | refine Out.mixIn rfl ?_)⟩
              · intro h159
                have g159 := of_decide_eq_false h159
                refine cw_skip ?_
                refine cw_region ?_
                first | refine lw_val rfl (run_move (v := .int .i64 _) rfl) ?_
                refine lw_val rfl (run_add64 rfl rfl rfl (inI (by omega) (by omega))) ?_
                first | refine lw_val rfl (run_assign (v := .int .i64 _) rfl) ?_
                refine lw_nil ?_
                rw [if_neg g159] at hcn
                exact ⟨x + 1, by omega, ⟨by omega, hs⟩, ⟨by rw [hcn]; rfl, rfl, trivial⟩, by repeat (first | exact Out.mix _ _ _ | refine Out.updo rfl ?_ | refine Out.upd rfl ?_ | refine Out.mixIn rfl ?_)⟩
            · intro h145
              have g145 := of_decide_eq_false h145
              first | refine aw_takeOn 26 rfl (by kernel_rfl) (by kernel_rfl) (by kernel_rfl) rfl rfl rfl h145 (fun w hs => run_move (v := .slice _ _ _) rfl) hK ?_
              first | refine aw_takeOn 27 rfl (by kernel_rfl) (by kernel_rfl) (by kernel_rfl) rfl rfl rfl h145 (fun w hs => run_move (v := .int .i64 _) rfl) hK ?_
              refine aw_takeOn 28 rfl (by kernel_rfl) (by kernel_rfl) (by kernel_rfl) rfl rfl rfl h145 (fun w hs => run_indexAddr Tryd.underlying22 sz3 rfl rfl (i := x) rfl (by omega) rfl) hK ?_
              refine aw_takeOn 29 rfl (by kernel_rfl) (by kernel_rfl) (by kernel_rfl) rfl rfl rfl h145 (fun w hs => run_load Tryd.underlying3 rfl rfl (hs.ownAt 0 rfl hsx)) hK ?_
              refine aw_takeOn 30 rfl (by kernel_rfl) (by kernel_rfl) (by kernel_rfl) rfl rfl rfl h145 (fun w hs => run_eqi rfl rfl) hK ?_
              first | refine aw_takeOn 31 rfl (by kernel_rfl) (by kernel_rfl) (by kernel_rfl) rfl rfl rfl (not_f (decide_eq_true rfl)) (fun w hs => run_pickF (v := .bool _) rfl h145 rfl) hK ?_
              refine aw_takeOn 32 rfl (by kernel_rfl) (by kernel_rfl) (by kernel_rfl) rfl rfl rfl (not_f (decide_eq_true rfl)) (fun w hs => run_neb Tryd.underlying4 rfl rfl) hK ?_
              first | refine aw_take 33 rfl (by kernel_rfl) (by kernel_rfl) (by kernel_rfl) rfl (fun w hs => run_pickF (v := .bool _) rfl (not_f (decide_eq_true rfl)) rfl) hK ?_
              refine aw_done (by kernel_rfl) ?_
              clear hK
              refine cw_iff rfl (by rw [hrf, decide_eq_false g145]; simp) ?_
              refine cw_skip ?_
              refine cw_seq ?_
              refine cw_region ?_
              first | refine lw_val rfl (run_move (v := .slice _ _ _) rfl) ?_
              first | refine lw_val rfl (run_move (v := .int .i64 _) rfl) ?_
              refine lw_val rfl (run_indexAddr Tryd.underlying22 sz3 rfl rfl (i := x) rfl (by omega) rfl) ?_
              refine lw_val rfl (run_load Tryd.underlying3 rfl rfl (hs.ownAt 0 rfl hsx)) ?_
              refine lw_val rfl (run_eqi rfl rfl) ?_
              refine lw_nil ?_
              refine cw_if rfl ?_ ?_
              · intro h159
                have g159 := of_decide_eq_true h159
                refine cw_region ?_
                first | refine lw_val rfl (run_move (v := .int .i64 _) rfl) ?_
                refine lw_val rfl (run_add64 rfl rfl rfl (inI (by omega) (by omega))) ?_
                first | refine lw_val rfl (run_assign (v := .int .i64 _) rfl) ?_
                refine lw_nil ?_
                refine cw_region ?_
                first | refine lw_val rfl (run_move (v := .int .i64 _) rfl) ?_
                refine lw_val rfl (run_add64 rfl rfl rfl (inI (by omega) (by omega))) ?_
                first | refine lw_val rfl (run_assign (v := .int .i64 _) rfl) ?_
                refine lw_nil ?_
                rw [if_pos g159] at hcn
                exact ⟨x + 1, by omega, ⟨by omega, hs⟩, ⟨by rw [hcn]; rfl, rfl, trivial⟩, by repeat (first | exact Out.mix _ _ _ | refine Out.updo rfl ?_ | refine Out.upd rfl ?_ | refine Out.mixIn rfl ?_)⟩
              · intro h159
                have g159 := of_decide_eq_false h159
                refine cw_skip ?_
                refine cw_region ?_
                first | refine lw_val rfl (run_move (v := .int .i64 _) rfl) ?_
                refine lw_val rfl (run_add64 rfl rfl rfl (inI (by omega) (by omega))) ?_
                first | refine lw_val rfl (run_assign (v := .int .i64 _) rfl) ?_
                refine lw_nil ?_
                rw [if_neg g159] at hcn
                exact ⟨x + 1, by omega, ⟨by omega, hs⟩, ⟨by rw [hcn]; rfl, rfl, trivial⟩, by repeat (first | exact Out.mix _ _ _ | refine Out.updo rfl ?_ | refine Out.upd rfl ?_ | refine Out.mixIn rfl ?_)⟩
          · intro h118
            have g118 := of_decide_eq_false h118
            obtain rfl : x = 4 := by omega
            refine cw_exit rfl ?_
            refine cw_seq ?_
            refine cw_region ?_
            first | refine lw_val rfl (run_move (v := .pointer (some _)) rfl) ?_ | refine lw_val rfl (run_move (v := .pointer none) rfl) ?_ | refine lw_val rfl (run_move (v := .pointer _) rfl) ?_
            refine lw_buildSlice hs rfl ((intsL [2])) Tryd.underlying22 zs3 rfl (cells_one (intsL_one _)) rfl rfl rfl ?_
            clear hs
            intro b163 w hs
            try simp only [List.set_cons_succ, List.set_cons_zero] at hs
            refine lw_call rfl en25 (viewIn_sl (L := [_, _]) (l := [2]) (hs.arr [2, 0, 1] 3 (by decide)) (Rd.cells (n := 1) 0 rfl rfl) rfl (by decide)) ?_
            clear hs
            rintro _ w ⟨⟨sa, sc⟩, ts, rfl, hp, hpw, hs⟩
            have htl : ts.length = cntS V2 4 := by have h1 := hp.length_eq; rw [List.length_map, hO2.count 2 (by decide)] at h1; exact h1
            have hrk := fun (L : List HP) => RdK.row (g := g) (L := rowK 6 (.slice sa ts.length sc) (ts.map t3L) :: L) 0 rfl
            first | refine lw_val rfl (run_assign (v := .slice _ _ _) rfl) ?_
            refine lw_nil ?_
            refine cw_seq ?_
            refine cw_seq ?_
            refine cw_region ?_
            first | refine lw_val rfl (run_assign (v := .int .i64 _) rfl) ?_
            refine lw_nil ?_
            refine cw_block ?_
            refine cw_loop (X := Nat) [2, 15, 165, 166, 167, 168, 169, 170, 171, 172, 173, 174, 175, 176, 177, 178, 179, 180, 181, 182] (fun q => [(15, .int .i64 (q : Nat))]) (fun q w => 1 ≤ q ∧ Mem g w [rowK 6 (.slice sa ts.length sc) (ts.map t3L), own (.slice (some ⟨b30, 0, none⟩) 4 4) (intsL (stL V2)), ViewC p V2]) (fun q => ts.length - q) (1) ?_ ?_ ?_
            · exact ⟨rfl, trivial⟩
            · exact ⟨Nat.le_refl _, hs.arr [0, 4, 2] 5 (by decide)⟩
            clear hs
            rintro x ξ w hI
            obtain ⟨hq1, hs⟩ := hI
            refine cw_seq ?_
            refine cw_seq ?_
            refine cw_region ?_
            first | refine lw_val rfl (run_move (v := .int .i64 _) rfl) ?_
            first | refine lw_val rfl (run_move (v := .slice _ _ _) rfl) ?_
            refine lw_val rfl (run_lenS Tryd.underlying54 rfl) ?_
            refine lw_val rfl (run_lss rfl rfl) ?_
            refine lw_nil ?_
            refine cw_if rfl ?_ ?_
            · intro h168
              have g168 := of_decide_eq_true h168
              obtain ⟨y, hy⟩ : ∃ y, ts[x]? = some y := ⟨_, List.getElem?_eq_getElem (by omega)⟩
              obtain ⟨y0, hy0⟩ : ∃ y, ts[x - 1]? = some y := ⟨_, List.getElem?_eq_getElem (by omega)⟩
              obtain ⟨b1, o1, rfl⟩ := (hrk _).at hs (by rw [List.length_map]; omega)
              have hri := hO2.rise bL_falls hp hpw (t3M_at hy0) (by rw [show x - 1 + 1 = x by omega]; exact t3M_at hy)
              refine cw_skip ?_
              refine cw_seq ?_
              refine cw_block ?_
              refine cw_seq ?_
              refine cw_drawS mixes hs ?_
              intro w tr hK
              replace hs := tr _ hs
              clear tr
              first | refine aw_take 0 rfl (by kernel_rfl) (by kernel_rfl) (by kernel_rfl) rfl (fun w hs => run_move (v := .slice _ _ _) rfl) hK ?_
              first | refine aw_take 1 rfl (by kernel_rfl) (by kernel_rfl) (by kernel_rfl) rfl (fun w hs => run_move (v := .int .i64 _) rfl) hK ?_
              refine aw_take 2 rfl (by kernel_rfl) (by kernel_rfl) (by kernel_rfl) rfl (fun w hs => run_indexAddrK Tryd.underlying54 sz39 rfl rfl rfl (by omega) rfl) hK ?_
              first | refine aw_take 3 rfl (by kernel_rfl) (by kernel_rfl) (by kernel_rfl) rfl (fun w hs => run_fieldAddr (o' := 1) Tryd.underlying39 rfl sz2 rfl rfl rfl) hK ?_ | refine aw_take 3 rfl (by kernel_rfl) (by kernel_rfl) (by kernel_rfl) rfl (fun w hs => run_fieldAddr Tryd.underlying39 rfl sz2 rfl rfl rfl) hK ?_
              refine aw_take 4 rfl (by kernel_rfl) (by kernel_rfl) (by kernel_rfl) rfl (fun w hs => run_load Tryd.underlying2 rfl rfl ((hrk _).cell hs (t3L_at hy) (j := 1) rfl)) hK ?_
              first | refine aw_take 5 rfl (by kernel_rfl) (by kernel_rfl) (by kernel_rfl) rfl (fun w hs => run_move (v := .slice _ _ _) rfl) hK ?_
              first | refine aw_take 6 rfl (by kernel_rfl) (by kernel_rfl) (by kernel_rfl) rfl (fun w hs => run_move (v := .int .i64 _) rfl) hK ?_
              refine aw_take 7 rfl (by kernel_rfl) (by kernel_rfl) (by kernel_rfl) rfl (fun w hs => run_sub64 rfl rfl (c := ((x - 1 : Nat) : Int)) (by omega) (inI (by omega) (by omega))) hK ?_
              refine aw_take 8 rfl (by kernel_rfl) (by kernel_rfl) (by kernel_rfl) rfl (fun w hs => run_indexAddrK Tryd.underlying54 sz39 rfl rfl rfl (by omega) rfl) hK ?_
              first | refine aw_take 9 rfl (by kernel_rfl) (by kernel_rfl) (by kernel_rfl) rfl (fun w hs => run_fieldAddr (o' := 1) Tryd.underlying39 rfl sz2 rfl rfl rfl) hK ?_ | refine aw_take 9 rfl (by kernel_rfl) (by kernel_rfl) (by kernel_rfl) rfl (fun w hs => run_fieldAddr Tryd.underlying39 rfl sz2 rfl rfl rfl) hK ?_
              refine aw_take 10 rfl (by kernel_rfl) (by kernel_rfl) (by kernel_rfl) rfl (fun w hs => run_load Tryd.underlying2 rfl rfl ((hrk _).cell hs (t3L_at hy0) (j := 1) rfl)) hK ?_
              refine aw_take 11 rfl (by kernel_rfl) (by kernel_rfl) (by kernel_rfl) rfl (fun w hs => run_leq rfl rfl) hK ?_
              refine aw_done (by kernel_rfl) ?_
              clear hK
              refine cw_iff rfl (decide_eq_false (by omega)) ?_
              refine cw_skip ?_
              refine cw_region ?_
              first | refine lw_val rfl (run_move (v := .int .i64 _) rfl) ?_
              refine lw_val rfl (run_add64 rfl rfl rfl (inI (by omega) (by omega))) ?_
              first | refine lw_val rfl (run_assign (v := .int .i64 _) rfl) ?_
              refine lw_nil ?_
              exact ⟨x + 1, by omega, ⟨by omega, hs⟩, ⟨rfl, trivial⟩, by repeat (first | exact Out.mix _ _ _ | refine Out.updo rfl ?_ | refine Out.upd rfl ?_ | refine Out.mixIn rfl ?_)⟩
            · intro h168
              have g168 := of_decide_eq_false h168
              refine cw_exit rfl ?_
              refine cw_seq ?_
              refine cw_region ?_
              first | refine lw_val rfl (run_move (v := .slice _ _ _) rfl) ?_
              refine lw_val rfl (run_lenS Tryd.underlying54 rfl) ?_
              first | refine lw_val rfl (run_move (v := .int .i64 _) rfl) ?_
              refine lw_val rfl (run_nei rfl rfl) ?_
              refine lw_nil ?_
              refine cw_iff rfl (not_f (decide_eq_true (by rw [htl]))) ?_
              refine cw_skip ?_
              refine cw_region ?_
              first | refine lw_val rfl (run_move (v := .int .i64 _) rfl) ?_
              refine lw_val rfl (run_add64 rfl rfl rfl (inI (by omega) (by omega))) ?_
              first | refine lw_val rfl (run_assign (v := .int .i64 _) rfl) ?_
              refine lw_nil ?_
              exact ⟨(k + 1, V2), by simp only; omega, ⟨by simp only; omega, hO2, hs.suffix 1 rfl⟩, ⟨rfl, trivial⟩, by repeat (first | exact Out.mix _ _ _ | refine Out.updo rfl ?_ | refine Out.upd rfl ?_ | refine Out.mixIn rfl ?_)⟩
    · intro h34
      have g34 := of_decide_eq_false h34
      refine cw_exit rfl ?_
      refine cw_seq ?_
      refine cw_region ?_
      first | refine lw_val rfl (run_assign (v := .bool _) rfl) ?_
      refine lw_nil ?_
      refine cw_ret ?_
      refine res1 (v := .bool _) rfl rfl ?_
      exact ⟨_, rfl, rfl, hs.nil⟩
end Go.Proofs.YtkogkokmcmallaaDoor
