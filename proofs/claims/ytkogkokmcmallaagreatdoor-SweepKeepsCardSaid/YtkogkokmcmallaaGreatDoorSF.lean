/- The law SweepEnds: step by step all that nobody refers to goes, and nothing else. -/
import Derived.Test.YtkogkokmcmallaaGreatDoorSE
import Derived.Test.YtkogkokmcmallaaGreatDoorLR
namespace Go.Proofs.YtkogkokmcmallaaGreatDoor
set_option linter.all false
open Go.RowKit
attribute [local irreducible] errV
variable {g w : World} {L M : List HP} {ad : Nat → Addr} {p q : Nat} {V : Vw} {st : St}

theorem isS_sl (hE : ErrA ad g) (hs : Mem g w L) {d : Nat} (hd : d = 0 ∨ d ∈ allCodes) (c : Int) : Calls Tryz.prog 23 #[errV ad d, .int .i64 c] w (Ret fun v w' => v = .bool (decide ((d : Int) = c)) ∧ Mem g w' L) := by
  have := hs.calls (is_any (hE.atW hs) hs.size hd c)
  rw [int_beq] at this
  exact this
theorem sweep_view {c : Nat} (h : c ∈ viewCodes) : c ∈ allCodes := by
  simp only [viewCodes, allCodes, List.mem_cons, List.not_mem_nil, or_false] at *; omega
theorem ob_rowS (id : Nat) {q : Nat} (hq : q < 2) : ((oneM id (10 * id)).obs.map obL)[q]? = some (obL (objNm id (kindB q) (10 * id), 0, 0)) := by
  obtain rfl | rfl : q = 0 ∨ q = 1 := by omega
  · rfl
  · rfl
def askK (z : Int) : ByteArray := objNm (z % (6 : Nat)).toNat (kindB (IntKind.i64.wrap (z.tdiv 6) % (2 : Nat)).toNat) (10 * (z % (6 : Nat)).toNat)
theorem nmK : ∀ id, id < 6 → ∀ q, q < 2 → validB (objNm id (kindB q) (10 * id)).data.toList = true ∧ preB bPre (objNm id (kindB q) (10 * id)) = true ∧ (objNm id (kindB q) (10 * id)).size ≤ 100 := by decide +kernel
theorem askK_of (z : Int) : ∃ id q, id < 6 ∧ q < 2 ∧ askK z = objNm id (kindB q) (10 * id) := by
  have := Int.emod_lt_of_pos z (show (0 : Int) < (6 : Nat) by decide); have := Int.emod_nonneg z (show ((6 : Nat) : Int) ≠ 0 by decide)
  have := Int.emod_lt_of_pos (IntKind.i64.wrap (z.tdiv 6)) (show (0 : Int) < (2 : Nat) by decide); have := Int.emod_nonneg (IntKind.i64.wrap (z.tdiv 6)) (show ((2 : Nat) : Int) ≠ 0 by decide)
  exact ⟨_, _, by omega, by omega, rfl⟩
/-- What is put. -/
def putsO (N : List ByteArray) : List (ByteArray × List UInt8) := N.foldl (fun o n => aput o n []) [(bOth, [])]
theorem putsO_next {N : List ByteArray} {k : Nat} {y : ByteArray} (h : N[k]? = some y) : putsO (N.take (k + 1)) = aput (putsO (N.take k)) y [] := by
  simp [putsO, List.take_add_one, h]
theorem putsO_keys : ∀ (N : List ByteArray) (o : List (ByteArray × List UInt8)), (keysOf o).Nodup → (∀ x ∈ keysOf o, x = bOth) → (keysOf (N.foldl (fun o n => aput o n []) o)).Nodup ∧ (∀ x ∈ keysOf (N.foldl (fun o n => aput o n []) o), x ∈ keysOf o ∨ x ∈ N) ∧ (keysOf (N.foldl (fun o n => aput o n []) o)).length ≤ (keysOf o).length + N.length := by
  intro N
  suffices h : ∀ o : List (ByteArray × List UInt8), (keysOf o).Nodup → (keysOf (N.foldl (fun o n => aput o n []) o)).Nodup ∧ (∀ x ∈ keysOf (N.foldl (fun o n => aput o n []) o), x ∈ keysOf o ∨ x ∈ N) ∧ (keysOf (N.foldl (fun o n => aput o n []) o)).length ≤ (keysOf o).length + N.length from fun o h1 _ => h o h1
  induction N with
  | nil => exact fun o h => ⟨h, fun x hx => .inl hx, by simp⟩
  | cons n N ih =>
    intro o h
    obtain ⟨i1, i2, i3⟩ := ih (aput o n []) (nodup_put h _ _)
    refine ⟨i1, fun x hx => ?_, ?_⟩
    · rcases i2 x hx with h2 | h2
      · rw [keys_put] at h2
        split at h2
        · exact .inl h2
        · rcases List.mem_append.1 h2 with h3 | h3
          · exact .inl h3
          · simp only [List.mem_cons, List.not_mem_nil, or_false] at h3
            exact .inr (h3 ▸ List.mem_cons_self ..)
      · exact .inr (List.mem_cons_of_mem _ h2)
    · have : (keysOf (aput o n [])).length ≤ (keysOf o).length + 1 := by
        rw [keys_put]; split
        · omega
        · simp
      simp only [List.foldl_cons, List.length_cons]
      omega
def pS (O : List (ByteArray × List UInt8)) (c : Nat) : St := { objs := O, ups := [], ids := 0, script := [], calls := c, failed := 0 }
theorem put_pS {O : List (ByteArray × List UInt8)} {c : Nat} {n : ByteArray} (h : validB n.data.toList = true) : (pS O c).run (St.put1 n []) = (0, pS (aput O n []) (c + 1)) := by
  rw [run_ok rfl]; simp [St.put1, h, pS]
theorem put_e : St.empty.run (St.put1 bOth []) = (0, pS (putsO []) 1) := by
  rw [run_ok rfl]; simp [St.put1, both_valid, pS, St.empty, putsO, aput]
def bSx : ByteArray := ⟨#[115, 101, 103, 45, 120]⟩
theorem bSx_valid : validB bSx.data.toList = true := by decide +kernel
def upX (n : Nat) : List (Int × Up) := (List.range n).map fun (i : Nat) => (((i + 1 : Nat) : Int), (⟨bSx, []⟩ : Up))
def uS (O : List (ByteArray × List UInt8)) (n c : Nat) (s : List Int) : St := { objs := O, ups := upX n, ids := n, script := s, calls := c, failed := 0 }
theorem keys_upX (n : Nat) : keysOf (upX n) = (List.range n).map fun (i : Nat) => ((i + 1 : Nat) : Int) := by simp [keysOf, upX, List.map_map, Function.comp_def]
theorem upX_len (n : Nat) : (upX n).length = n := by simp [upX]
theorem upX_nodup (n : Nat) : (keysOf (upX n)).Nodup := by
  rw [keys_upX]
  refine List.pairwise_map.2 (List.nodup_range.imp ?_)
  intro x y h e
  have h2 : ((x + 1 : Nat) : Int) = ((y + 1 : Nat) : Int) := e
  exact h (by omega)
theorem upX_mem (n : Nat) (i : Int) : i ∈ keysOf (upX n) ↔ 1 ≤ i ∧ i ≤ n := by
  rw [keys_upX]
  simp only [List.mem_map, List.mem_range]
  constructor
  · rintro ⟨j, h1, rfl⟩; omega
  · rintro ⟨h1, h2⟩; exact ⟨(i - 1).toNat, by omega, by omega⟩
theorem upX_put (n : Nat) : aput (upX n) ((n + 1 : Nat) : Int) ⟨bSx, []⟩ = upX (n + 1) := by
  have : aget (upX n) ((n + 1 : Nat) : Int) = none := by rw [aget_none_iff, upX_mem]; omega
  rw [al_end this]; simp [upX, List.range_succ]
theorem start_uS (O : List (ByteArray × List UInt8)) (n c : Nat) : (uS O n c []).startR bSx = (((n + 1 : Nat) : Int), 0, uS O (n + 1) (c + 1) []) := by
  have := upX_put n
  simp [St.startR, St.next, St.begin, uS, St.start1, bSx_valid] at this ⊢
  exact this
theorem filter_one_id {U : List Int} (hU : U.Nodup) (o : Int) : U.filter (fun i => decide (i = o)) = if o ∈ U then [o] else [] := by
  induction U with
  | nil => rfl
  | cons u U ih =>
    rw [List.nodup_cons] at hU
    have ih := ih hU.2
    rw [List.filter_cons]
    by_cases e : u = o
    · subst e
      rw [if_neg hU.1] at ih
      simp [ih]
    · rw [if_neg (by simpa using e), ih]
      simp [show ¬ o = u from fun h => e h.symm]
theorem sortI_one (z : Int) : sortI [z] = [z] := by simp [sortI]
theorem sortI_nil : sortI [] = [] := by simp [sortI]
theorem sortI_len2 (l : List Int) : (sortI l).length = l.length := by simp [sortI]
set_option maxHeartbeats 8000000 in
set_option maxRecDepth 20000 in
theorem sweepEnds_sl (hA : ErrA ad g) (hs : Mem g w []) {a0 a1 a4 : Option Addr} {n0 n1 n4 c0 c1 c4 : Nat} {sts l outs : List Int} {un0 ow0 : Int} (h0 : Came g (.slice a0 n0 c0) (intsL sts)) (e0 : n0 = sts.length) (h1 : Came g (.slice a1 n1 c1) (intsL l)) (e1 : n1 = l.length) (h4 : Came g (.slice a4 n4 c4) (intsL outs)) (e4 : n4 = outs.length) :
    Calls Tryz.prog 4 #[.slice a0 n0 c0, .slice a1 n1 c1, .int .i64 un0, .int .i64 ow0, .slice a4 n4 c4] w (Ret fun v w' => v = .bool true ∧ Mem g w' []) := by
  subst e0 e1 e4
  have hE : ErrG ad g := hA.core
  have hV : ErrV ad g := hA.part fun _ => sweep_view
  refine calls_cw Tryz.func4 rfl rfl ?_
  skip
  refine cw_seq ?_
  refine cw_region ?_
  refine lw_val rfl (run_assign (v := .bool _) rfl) ?_
  refine lw_nil ?_
  refine cw_seq ?_
  refine cw_region ?_
  refine lw_call rfl en9 (first23_sl hV hs) ?_
  clear hs
  rintro _ w ⟨rfl, hs⟩
  refine lw_val rfl (run_assign (v := .bool _) rfl) ?_
  refine lw_nil ?_
  refine cw_seq ?_
  refine cw_seq ?_
  refine cw_region ?_
  refine lw_val rfl (run_move (v := .bool _) rfl) ?_
  refine lw_val rfl (run_not rfl) ?_
  refine lw_nil ?_
  refine cw_iff rfl (not_f (rfl)) ?_
  refine cw_skip ?_
  refine cw_seq ?_
  refine cw_seq ?_
  refine cw_region ?_
  refine lw_val rfl (run_move (v := .slice _ _ _) rfl) ?_
  refine lw_val rfl (run_lenS Tryz.underlying22 rfl) ?_
  refine lw_val rfl (run_gtr rfl rfl) ?_
  refine lw_val rfl (run_move (v := .bool _) rfl) ?_
  refine lw_split (t := _) (d := 35) rfl ?_ ?_
  · intro h34
    have g34 := of_decide_eq_true h34
    refine lw_off rfl rfl rfl h34 ?_
    refine lw_off rfl rfl rfl h34 ?_
    refine lw_off rfl rfl rfl h34 ?_
    refine lw_val rfl (run_pickT (v := .bool _) rfl h34 rfl) ?_
    refine lw_val rfl (run_move (v := .bool _) rfl) ?_
    refine lw_off rfl rfl rfl rfl ?_
    refine lw_off rfl rfl rfl rfl ?_
    refine lw_val rfl (run_pickT (v := .bool _) rfl rfl rfl) ?_
    refine lw_nil ?_
    refine cw_ift rfl rfl ?_
    refine cw_seq ?_
    refine cw_region ?_
    refine lw_val rfl (run_move (v := .bool _) rfl) ?_
    refine lw_val rfl (run_assign (v := .bool _) rfl) ?_
    refine lw_nil ?_
    refine cw_ret ?_
    refine res1 (v := .bool _) rfl rfl ?_
    exact ⟨_, rfl, rfl, hs⟩
  · intro h34
    have g34 := of_decide_eq_false h34
    refine lw_on rfl rfl h34 ?_
    refine lw_val rfl (run_move (v := .slice _ _ _) rfl) ?_
    refine lw_on rfl rfl h34 ?_
    refine lw_val rfl (run_lenS Tryz.underlying22 rfl) ?_
    refine lw_on rfl rfl h34 ?_
    refine lw_val rfl (run_gtr rfl rfl) ?_
    refine lw_val rfl (run_pickF (v := .bool _) rfl h34 rfl) ?_
    refine lw_val rfl (run_move (v := .bool _) rfl) ?_
    refine lw_split (t := _) (d := 40) rfl ?_ ?_
    · intro h38
      have g38 := of_decide_eq_true h38
      refine lw_off rfl rfl rfl h38 ?_
      refine lw_off rfl rfl rfl h38 ?_
      refine lw_val rfl (run_pickT (v := .bool _) rfl h38 rfl) ?_
      refine lw_nil ?_
      refine cw_ift rfl rfl ?_
      refine cw_seq ?_
      refine cw_region ?_
      refine lw_val rfl (run_move (v := .bool _) rfl) ?_
      refine lw_val rfl (run_assign (v := .bool _) rfl) ?_
      refine lw_nil ?_
      refine cw_ret ?_
      refine res1 (v := .bool _) rfl rfl ?_
      exact ⟨_, rfl, rfl, hs⟩
    · intro h38
      have g38 := of_decide_eq_false h38
      refine lw_on rfl rfl h38 ?_
      refine lw_val rfl (run_move (v := .bool _) rfl) ?_
      refine lw_on rfl rfl h38 ?_
      refine lw_val rfl (run_not rfl) ?_
      refine lw_val rfl (run_pickF (v := .bool _) rfl h38 rfl) ?_
      refine lw_nil ?_
      refine cw_iff rfl (not_f (rfl)) ?_
      refine cw_skip ?_
      refine cw_seq ?_
      refine cw_region ?_
      refine lw_val rfl (run_move (v := .int .i64 _) rfl) ?_
      refine lw_call rfl en17 (numberE_sl hs un0 10 (by decide)) ?_
      clear hs
      rintro _ w ⟨rfl, hs⟩
      obtain ⟨un, hun⟩ : ∃ un, un = (un0 % ((10 : Nat) : Int)).toNat := ⟨_, rfl⟩
      rw [← hun]
      have hun10 : un < 10 := by have := Int.emod_lt_of_pos un0 (show (0 : Int) < (10 : Nat) by decide); have := Int.emod_nonneg un0 (show ((10 : Nat) : Int) ≠ 0 by decide); omega
      refine lw_val rfl (run_assign (v := .int .i64 _) rfl) ?_
      refine lw_nil ?_
      refine cw_seq ?_
      refine cw_region ?_
      refine lw_val rfl (run_move (v := .int .i64 _) rfl) ?_
      refine lw_call rfl en17 (numberE_sl hs ow0 12 (by decide)) ?_
      clear hs
      rintro _ w ⟨rfl, hs⟩
      obtain ⟨ow, how⟩ : ∃ ow, ow = (ow0 % ((12 : Nat) : Int)).toNat := ⟨_, rfl⟩
      rw [← how]
      refine lw_val rfl (run_assign (v := .int .i64 _) rfl) ?_
      refine lw_nil ?_
      refine cw_seq ?_
      refine cw_region ?_
      refine lw_val rfl (run_move (v := .slice _ _ _) rfl) ?_
      refine lw_call rfl en10 (made_sl hV hs (h0.rd _) rfl) ?_
      clear hs
      rintro _ w ⟨pv, rfl, hs⟩
      obtain ⟨V, hVV⟩ : ∃ V, V = madeV sts 4 := ⟨_, rfl⟩
      rw [← hVV] at hs
      refine lw_val rfl (run_assign (v := .pointer (some _)) rfl) ?_
      refine lw_nil ?_
      refine cw_seq ?_
      refine cw_region ?_
      refine lw_call rfl en11 (new_sl hs) ?_
      clear hs
      rintro _ w ⟨p, rfl, hs⟩
      refine lw_val rfl (run_assign (v := .pointer (some _)) rfl) ?_
      refine lw_nil ?_
      refine cw_seq ?_
      refine cw_region ?_
      refine lw_val rfl (run_move (v := .pointer (some _)) rfl) ?_
      refine lw_call rfl en12 (clnew_sl hE hs (t := 2) (by decide)) ?_
      clear hs
      rintro _ w ⟨q, rfl, hs⟩
      refine lw_val rfl (run_move (v := .tuple _) rfl) ?_
      refine lw_val rfl (run_extract (v := .pointer (some _)) rfl rfl) ?_
      refine lw_val rfl (run_extract (v := .nilIface) rfl rfl) ?_
      refine lw_val rfl (run_assign (v := .pointer (some _)) rfl) ?_
      refine lw_val rfl (run_assign (v := .nilIface) rfl) ?_
      refine lw_nil ?_
      refine cw_seq ?_
      refine cw_seq ?_
      refine cw_region ?_
      refine lw_val rfl (run_move (v := .pointer (some _)) rfl) ?_
      refine lw_val rfl (run_eqpn Tryz.underlying24 rfl rfl) ?_
      refine lw_val rfl (run_move (v := .bool _) rfl) ?_
      refine lw_on rfl rfl (rfl) ?_
      refine lw_val rfl (run_move (v := .pointer (some _)) rfl) ?_
      refine lw_on rfl rfl (rfl) ?_
      refine lw_val rfl (run_eqpn Tryz.underlying28 rfl rfl) ?_
      refine lw_val rfl (run_pickF (v := .bool _) rfl (rfl) rfl) ?_
      refine lw_val rfl (run_move (v := .bool _) rfl) ?_
      refine lw_on rfl rfl (rfl) ?_
      refine lw_val rfl (run_move (v := .nilIface) rfl) ?_
      refine lw_on rfl rfl (rfl) ?_
      refine lw_val rfl (run_nenn rfl) ?_
      refine lw_val rfl (run_pickF (v := .bool _) rfl (rfl) rfl) ?_
      refine lw_val rfl (run_move (v := .bool _) rfl) ?_
      refine lw_on rfl rfl (rfl) ?_
      refine lw_val rfl (run_move (v := .pointer (some _)) rfl) ?_
      refine lw_on rfl rfl (rfl) ?_
      refine lw_call rfl en14 (put_sl hE (M := [_, _]) (hs.arr [1, 0, 2] 3 (by decide)) (by decide) (by decide) (n := bOth) (b := []) Rd.nil (by decide) put_e) ?_
      clear hs
      rintro _ w ⟨rfl, hs⟩
      replace hs := hs.arr [1, 0, 2] 3 (by decide)
      obtain ⟨N, hN⟩ : ∃ N, N = l.map askK := ⟨_, rfl⟩
      have hNl : N.length = l.length := by rw [hN, List.length_map]
      refine lw_on rfl rfl (rfl) ?_
      refine lw_val rfl (run_neerrn (ad := ad) rfl) ?_
      refine lw_val rfl (run_pickF (v := .bool _) rfl (rfl) rfl) ?_
      refine lw_nil ?_
      refine cw_iff rfl (rfl) ?_
      refine cw_skip ?_
      refine cw_seq ?_
      refine cw_seq ?_
      refine cw_region ?_
      refine lw_val rfl (run_assign (v := .int .i64 _) rfl) ?_
      refine lw_nil ?_
      refine cw_block ?_
      refine cw_loop (X := Nat) [10, 16, 17, 72, 73, 74, 75, 76, 77, 78, 79, 80, 81, 82, 83, 84, 85, 86, 87, 88, 89, 90, 91, 92, 93, 94, 95, 96, 97] (fun k => [(16, .int .i64 (k : Nat))]) (fun k w => k ≤ l.length ∧ Mem g w [clientC q p ((2 : Nat) : Int) 0, StoreC p (pS (putsO (N.take k)) (k + 1)), ViewC pv V]) (fun k => l.length - k) (0) ?_ ?_ ?_
      · exact ⟨rfl, trivial⟩
      · exact ⟨Nat.zero_le _, hs⟩
      clear hs
      rintro x ξ w hI
      obtain ⟨hk, hs⟩ := hI
      refine cw_seq ?_
      refine cw_seq ?_
      refine cw_region ?_
      refine lw_val rfl (run_move (v := .int .i64 _) rfl) ?_
      refine lw_val rfl (run_move (v := .slice _ _ _) rfl) ?_
      refine lw_val rfl (run_lenS Tryz.underlying22 rfl) ?_
      refine lw_val rfl (run_lss rfl rfl) ?_
      refine lw_nil ?_
      refine cw_if rfl ?_ ?_
      · intro h75
        have g75 := of_decide_eq_true h75
        obtain ⟨z, hz⟩ : ∃ z, l[x]? = some z := ⟨_, List.getElem?_eq_getElem (by omega)⟩
        obtain ⟨b1, o1, rfl, _⟩ := (h1.rd _).cells' hs (by rw [intsL_len]; omega)
        have hNi : N[x]? = some (askK z) := by rw [hN, List.getElem?_map, hz]; rfl
        obtain ⟨id, hid⟩ : ∃ id, id = (z % ((6 : Nat) : Int)).toNat := ⟨_, rfl⟩
        obtain ⟨qq, hq⟩ : ∃ qq, qq = (IntKind.i64.wrap (z.tdiv 6) % ((2 : Nat) : Int)).toNat := ⟨_, rfl⟩
        have hid6 : id < 6 := by have := Int.emod_lt_of_pos z (show (0 : Int) < (6 : Nat) by decide); have := Int.emod_nonneg z (show ((6 : Nat) : Int) ≠ 0 by decide); omega
        have hq2 : qq < 2 := by have := Int.emod_lt_of_pos (IntKind.i64.wrap (z.tdiv 6)) (show (0 : Int) < (2 : Nat) by decide); have := Int.emod_nonneg (IntKind.i64.wrap (z.tdiv 6)) (show ((2 : Nat) : Int) ≠ 0 by decide); omega
        have hask : askK z = objNm id (kindB qq) (10 * id) := by rw [askK, ← hid, ← hq]
        have hnx := putsO_next hNi
        rw [hask] at hnx
        have hnm := nmK id hid6 qq hq2
        refine cw_skip ?_
        refine cw_seq ?_
        refine cw_block ?_
        refine cw_seq ?_
        refine cw_region ?_
        refine lw_val rfl (run_move (v := .slice _ _ _) rfl) ?_
        refine lw_val rfl (run_move (v := .int .i64 _) rfl) ?_
        refine lw_val rfl (run_indexAddr Tryz.underlying22 sz3 rfl rfl rfl (by omega) rfl) ?_
        refine lw_val rfl (run_load Tryz.underlying3 rfl rfl ((h1.rd _).cellAt hs (intsL_at hz))) ?_
        refine lw_call rfl en17 (numberE_sl hs z 6 (by decide)) ?_
        clear hs
        rintro _ w ⟨rfl, hs⟩
        rw [← hid]
        refine lw_val rfl (run_assign (v := .int .i64 _) rfl) ?_
        refine lw_nil ?_
        refine cw_seq ?_
        refine cw_drawS mixes (hs.drop 1) ?_
        intro w tr hK
        replace hs := tr _ hs
        clear tr
        refine aw_take 0 rfl (by kernel_rfl) (by kernel_rfl) (by kernel_rfl) rfl (fun w hs => run_move (v := .pointer (some _)) rfl) hK ?_
        refine aw_take 1 rfl (by kernel_rfl) (by kernel_rfl) (by kernel_rfl) rfl (fun w hs => run_move (v := .int .i64 _) rfl) hK ?_
        refine aw_take 4 rfl (by kernel_rfl) (by kernel_rfl) (by kernel_rfl) rfl (fun w hs => run_move (v := .slice _ _ _) rfl) hK ?_
        refine aw_take 5 rfl (by kernel_rfl) (by kernel_rfl) (by kernel_rfl) rfl (fun w hs => run_move (v := .int .i64 _) rfl) hK ?_
        refine aw_take 6 rfl (by kernel_rfl) (by kernel_rfl) (by kernel_rfl) rfl (fun w hs => run_indexAddr Tryz.underlying22 sz3 rfl rfl rfl (by omega) rfl) hK ?_
        refine aw_take 7 rfl (by kernel_rfl) (by kernel_rfl) (by kernel_rfl) rfl (fun w hs => run_load Tryz.underlying3 rfl rfl ((h1.rd _).cellAt hs (intsL_at hz))) hK ?_
        refine @aw_take _ _ _ _ _ _ _ _ _ _ _ _ _ _ 8 _ rfl (by kernel_rfl) (by kernel_rfl) (by kernel_rfl) rfl (fun w hs => run_quo rfl rfl (by decide)) hK ?_
        refine aw_ready [2] (by kernel_rfl) (by simp) ?_
        refine ⟨⟨_, rfl, ?_⟩, trivial⟩
        refine lw_call rfl en13 (one23_sl hs id hid6) ?_
        clear hs
        rintro _ w ⟨s1, s2, rfl, hs⟩
        obtain ⟨b9, o9, sc, rfl, hrk⟩ := hs.obsAt (by show 0 < 2; decide)
        clear hK
        have hK := (hs.suffix 2 rfl).drop 1
        refine lw_nil ⟨hK, ?_⟩
        refine @aw_take _ _ _ _ _ _ _ _ _ _ _ _ _ _ 3 _ rfl (by kernel_rfl) (by kernel_rfl) (by kernel_rfl) rfl (fun w hs => run_field1 (v := .slice (some ⟨b9, o9, none⟩) 2 sc) Tryz.underlying36 rfl Tryz.isAgg34 rfl rfl) hK ?_
        refine aw_ready [9] (by kernel_rfl) (by simp) ?_
        refine ⟨⟨_, rfl, ?_⟩, trivial⟩
        refine lw_call rfl en17 (numberE_sl hs (IntKind.i64.wrap (z.tdiv 6)) 2 (by decide)) ?_
        clear hs
        rintro _ w ⟨rfl, hs⟩
        rw [← hq]
        clear hK
        have hK := (hs.suffix 2 rfl).drop 1
        refine lw_nil ⟨hK, ?_⟩
        refine aw_take 10 rfl (by kernel_rfl) (by kernel_rfl) (by kernel_rfl) rfl (fun w hs => run_indexAddrK Tryz.underlying34 sz41 rfl rfl (i := qq) rfl (by omega) rfl) hK ?_
        refine aw_take 11 rfl (by kernel_rfl) (by kernel_rfl) (by kernel_rfl) rfl (fun w hs => run_fieldAddr Tryz.underlying41 rfl sz9 rfl rfl rfl) hK ?_
        refine aw_ready [12] (by kernel_rfl) (by simp) ?_
        refine ⟨⟨_, rfl, ?_⟩, trivial⟩
        refine lw_val rfl (run_load Tryz.underlying9 rfl rfl (hrk.cell hs (q := qq) (row := obL (objNm id (kindB qq) (10 * id), 0, 0)) (ob_rowS id hq2) (j := 0) rfl)) ?_
        clear hK
        have hK := (hs.suffix 2 rfl).drop 1
        refine lw_nil ⟨hK, ?_⟩
        refine aw_ready [13] (by kernel_rfl) (by simp) ?_
        refine ⟨⟨_, rfl, ?_⟩, trivial⟩
        refine lw_call rfl en14 (put_sl hE (M := [_, _, _, _]) (hs.arr [3, 0, 1, 2, 4] 5 (by decide)) (by show x + 1 < _; omega) (by show 0 < _; decide) (n := objNm id (kindB qq) (10 * id)) (b := []) Rd.nil (by decide) (put_pS hnm.1)) ?_
        clear hs
        rintro _ w ⟨rfl, hs⟩
        rw [← hnx] at hs
        replace hs := hs.arr [3, 0, 4] 5 (by decide)
        clear hK
        have hK := hs.drop 1
        refine lw_nil ⟨hK, ?_⟩
        refine aw_take 14 rfl (by kernel_rfl) (by kernel_rfl) (by kernel_rfl) rfl (fun w hs => run_neerrn (ad := ad) rfl) hK ?_
        refine aw_done (by kernel_rfl) ?_
        clear hK
        refine cw_iff rfl (rfl) ?_
        refine cw_skip ?_
        refine cw_region ?_
        refine lw_val rfl (run_move (v := .int .i64 _) rfl) ?_
        refine lw_val rfl (run_add64 rfl rfl rfl (inI (by omega) (by omega))) ?_
        refine lw_val rfl (run_assign (v := .int .i64 _) rfl) ?_
        refine lw_nil ?_
        exact ⟨x + 1, by omega, ⟨by omega, hs⟩, ⟨rfl, trivial⟩, by repeat (first | exact Out.mix _ _ _ | refine Out.updo rfl ?_ | refine Out.upd rfl ?_ | refine Out.mixIn rfl ?_)⟩
      · intro h75
        have g75 := of_decide_eq_false h75
        obtain rfl : x = l.length := by omega
        have hNf : N.take l.length = N := by rw [← hNl, List.take_length]
        rw [hNf] at hs
        refine cw_exit rfl ?_
        refine cw_seq ?_
        refine cw_seq ?_
        refine cw_region ?_
        refine lw_val rfl (run_assign (v := .int .i64 _) rfl) ?_
        refine lw_nil ?_
        refine cw_block ?_
        refine cw_loop (X := Nat) [18, 98, 99, 100, 101, 102, 103, 104] (fun k => [(18, .int .i64 (k : Nat))]) (fun k w => k ≤ un ∧ Mem g w [clientC q p ((2 : Nat) : Int) 0, StoreC p (uS (putsO N) k (l.length + 1 + k) []), ViewC pv V]) (fun k => un - k) (0) ?_ ?_ ?_
        · exact ⟨rfl, trivial⟩
        · exact ⟨Nat.zero_le _, hs⟩
        clear hs
        rintro x ξ w hI
        obtain ⟨hk1, hs⟩ := hI
        refine cw_seq ?_
        refine cw_seq ?_
        refine cw_region ?_
        refine lw_val rfl (run_move (v := .int .i64 _) rfl) ?_
        refine lw_val rfl (run_move (v := .int .i64 _) rfl) ?_
        refine lw_val rfl (run_lss rfl rfl) ?_
        refine lw_nil ?_
        refine cw_if rfl ?_ ?_
        · intro h100
          have g100 := of_decide_eq_true h100
          refine cw_skip ?_
          refine cw_seq ?_
          refine cw_block ?_
          refine cw_region ?_
          refine lw_val rfl (run_move (v := .pointer (some _)) rfl) ?_
          refine lw_call rfl en18 (start_sl hE (M := [_, _]) (hs.arr [1, 0, 2] 3 (by decide)) (by show x < _; omega) (by show l.length + 1 + x < _; omega) (by show 0 < _; decide) (start_uS _ _ _)) ?_
          clear hs
          rintro _ w ⟨rfl, hs⟩
          replace hs := hs.arr [1, 0, 2] 3 (by decide)
          refine lw_nil ?_
          refine cw_region ?_
          refine lw_val rfl (run_move (v := .int .i64 _) rfl) ?_
          refine lw_val rfl (run_add64 rfl rfl rfl (inI (by omega) (by omega))) ?_
          refine lw_val rfl (run_assign (v := .int .i64 _) rfl) ?_
          refine lw_nil ?_
          exact ⟨x + 1, by omega, ⟨by omega, hs⟩, ⟨rfl, trivial⟩, by repeat (first | exact Out.mix _ _ _ | refine Out.updo rfl ?_ | refine Out.upd rfl ?_ | refine Out.mixIn rfl ?_)⟩
        · intro h100
          have g100 := of_decide_eq_false h100
          obtain rfl : x = un := by omega
          obtain ⟨K, hK⟩ : ∃ K, K = keysOf (putsO N) := ⟨_, rfl⟩
          have hpk := putsO_keys N [(bOth, [])] (by simp [keysOf]) (by simp [keysOf])
          have hKn : K.Nodup := by rw [hK]; exact hpk.1
          have hKp : ∀ y ∈ K, (y = bOth ∨ preB bPre y = true) ∧ y.size ≤ 1000000 := fun y hy => by rw [hK] at hy; rcases hpk.2.1 y hy with h | h; (have h2 : y = bOth := by simpa [keysOf] using h); (subst h2; exact ⟨.inl rfl, by decide⟩); rw [hN, List.mem_map] at h; obtain ⟨z, _, rfl⟩ := h; obtain ⟨id, q, h5, h6, h7⟩ := askK_of z; rw [h7]; have h8 := nmK id h5 q h6; exact ⟨.inr h8.2.1, by omega⟩
          have hKl : K.length ≤ 21 := by rw [hK]; have h9 := hpk.2.2; simp only [putsO, keysOf, List.length_map, List.length_cons, List.length_nil] at h9 ⊢; omega
          obtain ⟨U, hU⟩ : ∃ U, U = keysOf (upX x) := ⟨_, rfl⟩
          have hUn : U.Nodup := by rw [hU]; exact upX_nodup x
          have hUl : U.length = x := by rw [hU, keysOf, List.length_map, upX_len]
          refine cw_exit rfl ?_
          refine cw_seq ?_
          refine cw_region ?_
          refine lw_val rfl (run_move (v := .pointer (some _)) rfl) ?_
          refine lw_call rfl en19 (names_sl (hs.arr [1, 0, 2] 3 (by decide)) (fun y hy => (hKp y (by rw [hK]; exact hy)).2) (by have h9 := hKl; rw [hK, keysOf, List.length_map] at h9; show (putsO N).length ≤ _; omega)) ?_
          clear hs
          rintro _ w ⟨a106, c106, rfl, hs⟩
          have ek : keysOf (uS (putsO N) x (l.length + 1 + x) []).objs = K := hK.symm
          rw [ek] at hs ⊢
          obtain ⟨T, hT⟩ : ∃ T, T = sortT K := ⟨_, rfl⟩
          rw [← hT] at hs ⊢
          refine lw_val rfl (run_assign (v := .slice _ _ _) rfl) ?_
          refine lw_nil ?_
          refine cw_seq ?_
          refine cw_region ?_
          refine lw_val rfl (run_move (v := .pointer (some _)) rfl) ?_
          refine lw_val rfl (run_move (v := .slice _ _ _) rfl) ?_
          refine lw_call rfl en20 (script_sl (L := [_, _, _]) (hs.arr [1, 0, 2, 3] 4 (by decide)) (h4.rd _) (by show 0 + _ ≤ _; omega)) ?_
          clear hs
          rintro _ w ⟨rfl, hs⟩
          obtain ⟨s0, hs0⟩ : ∃ s0 : St, s0 = { uS (putsO N) x (l.length + 1 + x) [] with script := (uS (putsO N) x (l.length + 1 + x) []).script ++ outs } := ⟨_, rfl⟩
          rw [← hs0] at hs
          have hI0 : SwI V (ow : Int) K U s0 := by rw [hs0]; exact ⟨by rw [hK]; exact List.Sublist.refl _, by rw [hU]; exact List.Sublist.refl _, fun y hy _ => by rw [hK] at hy; exact hy, fun i hi _ => by rw [hU] at hi; exact hi⟩
          have hm0 : cnt s0 + s0.script.length ≤ 60 := by have h9 := hKl; rw [hK, keysOf, List.length_map] at h9; rw [hs0]; show (putsO N).length + (upX x).length + ([] ++ outs).length ≤ 60; rw [upX_len]; simp only [List.nil_append]; omega
          have hc0 : s0.calls ≤ 60 ∧ s0.failed ≤ 60 := by rw [hs0]; exact ⟨by show l.length + 1 + x ≤ 60; omega, by show 0 ≤ 60; decide⟩
          refine lw_nil ?_
          refine cw_seq ?_
          refine cw_region ?_
          refine lw_val rfl (run_assign (v := .bool _) rfl) ?_
          refine lw_nil ?_
          refine cw_seq ?_
          refine cw_seq ?_
          refine cw_region ?_
          refine lw_val rfl (run_assign (v := .int .i64 _) rfl) ?_
          refine lw_nil ?_
          refine cw_block ?_
          refine cw_loop (X := Nat × Bool × St × Int) [10, 20, 21, 22, 23, 24, 25, 110, 111, 112, 113, 114, 115, 116, 117, 118, 119, 120, 121, 122, 123, 124, 125, 126, 127, 128, 129, 130, 131, 132, 133, 134, 135, 136, 137, 138, 139, 140, 141, 142, 143, 144, 145, 146, 147, 148, 149, 150, 151, 152, 153, 154, 155, 156, 157, 158, 159, 160, 161, 162, 163, 164, 165] (fun y => [(20, .bool y.2.1), (21, .int .i64 (y.1 : Nat))]) (fun y w => y.1 ≤ 200 ∧ SwI V (ow : Int) K U y.2.2.1 ∧ (y.2.1 = false → y.1 + (cnt y.2.2.1 + y.2.2.1.script.length) ≤ 60) ∧ (y.2.1 = true → (∀ n ∈ keysOf y.2.2.1.objs, preB bPre n = true → V.refers n = true) ∧ ∀ i ∈ keysOf y.2.2.1.ups, i = (ow : Int)) ∧ y.2.2.1.calls ≤ 60 + 6 * y.1 ∧ y.2.2.1.failed ≤ 60 + 6 * y.1 ∧ (0 ≤ y.2.2.2 ∧ y.2.2.2 ≤ 24 * y.1) ∧ Mem g w [own (.slice a106 T.length c106) (textsL T), clientC q p ((2 : Nat) : Int) y.2.2.2, StoreC p y.2.2.1, ViewC pv V]) (fun y => 200 - y.1) ((0, false, s0, 0)) ?_ ?_ ?_
          · exact ⟨rfl, rfl, trivial⟩
          · exact ⟨Nat.zero_le _, hI0, fun _ => by simpa using hm0, (fun h => by cases h), hc0.1, hc0.2, by simp, hs.arr [1, 2, 0, 3] 4 (by decide)⟩
          clear hs
          rintro x ξ w hI
          obtain ⟨i, over, st, a⟩ := x
          obtain ⟨hi, hSI, hmu, hfin, hca, hfa, haa, hs⟩ := hI
          simp only at hi hSI hmu hfin hca hfa haa hs
          obtain ⟨hno, hnu⟩ := hSI.nodup hKn hUn
          have hol := hSI.ko.length_le
          have hul := hSI.ku.length_le
          rw [keysOf, List.length_map] at hol hul
          have hnmd : st.named := ⟨fun y hy => (hKp y (hSI.ko.subset hy)).2, by omega⟩
          have hupd : st.upped := ⟨fun j hj => by have h9 := hSI.ku.subset hj; rw [hU, upX_mem] at h9; exact ⟨by omega, by omega⟩, by omega⟩
          show cw _ _ _ _ _ _ (updL (mix _ ξ _) [(20, .bool over), (21, .int .i64 (i : Nat))]) w
          refine cw_seq ?_
          refine cw_seq ?_
          refine cw_region ?_
          refine lw_val rfl (run_move (v := .int .i64 _) rfl) ?_
          refine lw_val rfl (run_lss rfl rfl) ?_
          refine lw_val rfl (run_move (v := .bool _) rfl) ?_
          refine lw_split (t := _) (d := 112) rfl ?_ ?_
          · intro h111
            have g111 := of_decide_eq_true h111
            refine lw_on rfl rfl h111 ?_
            refine lw_val rfl (run_move (v := .bool _) rfl) ?_
            refine lw_on rfl rfl h111 ?_
            refine lw_val rfl (run_not rfl) ?_
            refine lw_val rfl (run_pickT (v := .bool _) rfl h111 rfl) ?_
            refine lw_nil ?_
            refine cw_if rfl ?_ ?_
            · intro h20
              replace h20 := not_b h20
              refine cw_skip ?_
              refine cw_seq ?_
              refine cw_block ?_
              refine cw_seq ?_
              refine cw_region ?_
              refine lw_val rfl (run_move (v := .pointer (some _)) rfl) ?_
              refine lw_call rfl en19 (names_sl (L := [_, _, _]) (hs.arr [2, 0, 1, 3] 4 (by decide)) hnmd.1 hnmd.2) ?_
              clear hs
              rintro _ w ⟨a119, c119, rfl, hs⟩
              replace hs := hs.arr [2, 3, 1, 4] 5 (by decide)
              refine lw_val rfl (run_lenS Tryz.underlying48 rfl) ?_
              refine lw_val rfl (run_move (v := .pointer (some _)) rfl) ?_
              refine lw_call rfl en21 (open_sl (L := [_, _, _]) (hs.arr [2, 0, 1, 3] 4 (by decide)) hupd.1 hupd.2) ?_
              clear hs
              rintro _ w ⟨a122, c122, rfl, hs⟩
              replace hs := hs.arr [2, 3, 1, 4] 5 (by decide)
              refine lw_val rfl (run_lenS Tryz.underlying22 rfl) ?_
              refine lw_val rfl (run_add64 rfl rfl (c := ((cnt st : Nat) : Int)) (by simp only [cnt, sortT_len, sortI_len2, keysOf, List.length_map]; omega) (inI (by omega) (by simp only [cnt]; omega))) ?_
              refine lw_val rfl (run_assign (v := .int .i64 _) rfl) ?_
              refine lw_nil ?_
              refine cw_seq ?_
              refine cw_region ?_
              refine lw_val rfl (run_move (v := .pointer (some _)) rfl) ?_
              refine lw_val rfl (run_move (v := .pointer (some _)) rfl) ?_
              refine lw_val rfl (run_move (v := .int .i64 _) rfl) ?_
              refine lw_call rfl en22 (step_sl hE (M := [_]) (t := 2) (own_ := (ow : Int)) ⟨by omega, by omega⟩ (by decide) (hs.arr [1, 2, 3, 0] 4 (by decide)) (by omega) (by omega) hnmd hupd hno hnu) ?_
              clear hs
              rintro _ w ⟨is, c, st2, nn, rfl, hsw, hnn, hs⟩
              replace hs := hs.arr [3, 0, 1, 2] 4 (by decide)
              have hst := hSI.step hKn hUn hsw
              have heat := hsw.eats
              obtain ⟨hSI2, hcn1, hcn2, hcc, hst⟩ := hst
              have hsc2 := heat.sc
              have hca2 := heat.calls
              have hfa2 := heat.failed
              have hol2 := hSI2.ko.length_le
              have hul2 := hSI2.ku.length_le
              rw [keysOf, List.length_map] at hol2 hul2
              have hnmd2 : st2.named := ⟨fun y hy => (hKp y (hSI2.ko.subset hy)).2, by omega⟩
              have hupd2 : st2.upped := ⟨fun j hj => by have h9 := hSI2.ku.subset hj; rw [hU, upX_mem] at h9; exact ⟨by omega, by omega⟩, by omega⟩
              refine lw_val rfl (run_move (v := .tuple _) rfl) ?_
              refine lw_val rfl (run_extract (v := .bool _) rfl rfl) ?_
              refine lw_val rfl (run_extract (v := errV ad _) rfl rfl) ?_
              refine lw_val rfl (run_assign (v := .bool _) rfl) ?_
              refine lw_val rfl (run_assign (v := errV ad _) rfl) ?_
              refine lw_nil ?_
              refine cw_seq ?_
              refine cw_region ?_
              refine lw_val rfl (run_move (v := .pointer (some _)) rfl) ?_
              refine lw_call rfl en19 (names_sl (L := [_, _, _]) (hs.arr [2, 0, 1, 3] 4 (by decide)) hnmd2.1 hnmd2.2) ?_
              clear hs
              rintro _ w ⟨a133, c133, rfl, hs⟩
              replace hs := hs.arr [2, 3, 1, 4] 5 (by decide)
              refine lw_val rfl (run_lenS Tryz.underlying48 rfl) ?_
              refine lw_val rfl (run_move (v := .pointer (some _)) rfl) ?_
              refine lw_call rfl en21 (open_sl (L := [_, _, _]) (hs.arr [2, 0, 1, 3] 4 (by decide)) hupd2.1 hupd2.2) ?_
              clear hs
              rintro _ w ⟨a136, c136, rfl, hs⟩
              replace hs := hs.arr [2, 3, 1, 4] 5 (by decide)
              refine lw_val rfl (run_lenS Tryz.underlying22 rfl) ?_
              refine lw_val rfl (run_add64 rfl rfl (c := ((cnt st2 : Nat) : Int)) (by simp only [cnt, sortT_len, sortI_len2, keysOf, List.length_map]; omega) (inI (by omega) (by simp only [cnt]; omega))) ?_
              refine lw_val rfl (run_assign (v := .int .i64 _) rfl) ?_
              refine lw_nil ?_
              refine cw_seq ?_
              refine cw_seq ?_
              rcases hst with ⟨rfl, rfl, hd⟩ | ⟨rfl, rfl, hd⟩ | ⟨rfl, rfl, hd, hd2⟩
              · skip
                refine cw_region ?_
                refine lw_val rfl (run_move (v := errV ad _) rfl) ?_
                refine lw_val rfl (run_neerrn (ad := ad) rfl) ?_
                refine lw_val rfl (run_move (v := .bool _) rfl) ?_
                refine lw_off rfl rfl rfl (rfl) ?_
                refine lw_off rfl rfl rfl (rfl) ?_
                refine lw_off rfl rfl rfl (rfl) ?_
                refine lw_off rfl rfl rfl (rfl) ?_
                refine lw_offU rfl rfl rfl ?_
                refine lw_off rfl rfl rfl (rfl) ?_
                refine lw_val rfl (run_pickF (v := .bool _) rfl (rfl) rfl) ?_
                refine lw_val rfl (run_move (v := .bool _) rfl) ?_
                refine lw_on rfl rfl rfl ?_
                refine lw_val rfl (run_move (v := .int .i64 _) rfl) ?_
                refine lw_on rfl rfl rfl ?_
                refine lw_val rfl (run_move (v := .int .i64 _) rfl) ?_
                refine lw_on rfl rfl rfl ?_
                refine lw_val rfl (run_sub64 rfl rfl (c := ((cnt st : Nat) : Int) - ((cnt st2 : Nat) : Int)) rfl (inI (by simp only [cnt]; omega) (by simp only [cnt]; omega))) ?_
                refine lw_on rfl rfl rfl ?_
                refine lw_val rfl (run_gtr rfl rfl) ?_
                refine lw_val rfl (run_pickF (v := .bool _) rfl rfl rfl) ?_
                refine lw_val rfl (run_move (v := .bool _) rfl) ?_
                refine lw_on rfl rfl (decide_eq_false (by omega)) ?_
                refine lw_val rfl (run_move (v := .int .i64 _) rfl) ?_
                refine lw_on rfl rfl (decide_eq_false (by omega)) ?_
                refine lw_val rfl (run_move (v := .int .i64 _) rfl) ?_
                refine lw_on rfl rfl (decide_eq_false (by omega)) ?_
                refine lw_val rfl (run_gtr rfl rfl) ?_
                refine lw_val rfl (run_pickF (v := .bool _) rfl (decide_eq_false (by omega)) rfl) ?_
                refine lw_nil ?_
                refine cw_iff rfl (decide_eq_false (by omega)) ?_
                refine cw_skip ?_
                refine cw_region ?_
                refine lw_val rfl (run_move (v := errV ad _) rfl) ?_
                refine lw_val rfl (run_eqerrn (ad := ad) rfl) ?_
                refine lw_val rfl (run_move (v := .bool _) rfl) ?_
                refine lw_on rfl rfl (rfl) ?_
                refine lw_val rfl (run_move (v := .bool _) rfl) ?_
                refine lw_on rfl rfl (rfl) ?_
                refine lw_val rfl (run_not rfl) ?_
                refine lw_val rfl (run_pickT (v := .bool _) rfl (rfl) rfl) ?_
                refine lw_val rfl (run_assign (v := .bool _) rfl) ?_
                refine lw_nil ?_
                refine cw_region ?_
                refine lw_val rfl (run_move (v := .int .i64 _) rfl) ?_
                refine lw_val rfl (run_add64 rfl rfl rfl (inI (by omega) (by omega))) ?_
                refine lw_val rfl (run_assign (v := .int .i64 _) rfl) ?_
                refine lw_nil ?_
                exact ⟨(i + 1, false, st2, a + (nn : Nat)), by simp only; omega, ⟨by simp only; omega, hSI2, fun _ => by simp only; have := hmu h20; omega, (fun h => by cases h), by simp only; omega, by simp only; omega, ⟨by simp only; omega, by simp only; omega⟩, hs⟩, ⟨rfl, rfl, trivial⟩, by repeat (first | exact Out.mix _ _ _ | refine Out.updo rfl ?_ | refine Out.upd rfl ?_ | refine Out.mixIn rfl ?_)⟩
              · skip
                refine cw_region ?_
                refine lw_val rfl (run_move (v := errV ad _) rfl) ?_
                refine lw_val rfl (run_neerrn (ad := ad) rfl) ?_
                refine lw_val rfl (run_move (v := .bool _) rfl) ?_
                refine lw_on rfl rfl (rfl) ?_
                refine lw_val rfl (run_move (v := errV ad _) rfl) ?_
                refine lw_on rfl rfl (rfl) ?_
                refine lw_call rfl en23 (isS_sl hA hs (d := 111) (.inr (by decide)) 111) ?_
                clear hs
                rintro _ w ⟨rfl, hs⟩
                refine lw_on rfl rfl (rfl) ?_
                refine lw_val rfl (run_not rfl) ?_
                refine lw_on rfl rfl (rfl) ?_
                refine lw_val rfl (run_move (v := .bool _) rfl) ?_
                refine lw_on rfl rfl (not_f (rfl)) ?_
                refine lw_val rfl (run_move (v := .bool _) rfl) ?_
                refine lw_on rfl rfl (rfl) ?_
                refine lw_val rfl (run_pickF (v := .bool _) rfl (not_f (rfl)) rfl) ?_
                refine lw_val rfl (run_pickT (v := .bool _) rfl (rfl) rfl) ?_
                refine lw_val rfl (run_move (v := .bool _) rfl) ?_
                refine lw_on rfl rfl (rfl) ?_
                refine lw_val rfl (run_move (v := .int .i64 _) rfl) ?_
                refine lw_on rfl rfl (rfl) ?_
                refine lw_val rfl (run_move (v := .int .i64 _) rfl) ?_
                refine lw_on rfl rfl (rfl) ?_
                refine lw_val rfl (run_sub64 rfl rfl (c := ((cnt st : Nat) : Int) - ((cnt st2 : Nat) : Int)) rfl (inI (by simp only [cnt]; omega) (by simp only [cnt]; omega))) ?_
                refine lw_on rfl rfl (rfl) ?_
                refine lw_val rfl (run_gtr rfl rfl) ?_
                refine lw_val rfl (run_pickF (v := .bool _) rfl (rfl) rfl) ?_
                refine lw_val rfl (run_move (v := .bool _) rfl) ?_
                refine lw_on rfl rfl (decide_eq_false (by omega)) ?_
                refine lw_val rfl (run_move (v := .int .i64 _) rfl) ?_
                refine lw_on rfl rfl (decide_eq_false (by omega)) ?_
                refine lw_val rfl (run_move (v := .int .i64 _) rfl) ?_
                refine lw_on rfl rfl (decide_eq_false (by omega)) ?_
                refine lw_val rfl (run_gtr rfl rfl) ?_
                refine lw_val rfl (run_pickF (v := .bool _) rfl (decide_eq_false (by omega)) rfl) ?_
                refine lw_nil ?_
                refine cw_iff rfl (decide_eq_false (by omega)) ?_
                refine cw_skip ?_
                refine cw_region ?_
                refine lw_val rfl (run_move (v := errV ad _) rfl) ?_
                refine lw_val rfl (run_eqerrn (ad := ad) rfl) ?_
                refine lw_val rfl (run_move (v := .bool _) rfl) ?_
                refine lw_off rfl rfl rfl (rfl) ?_
                refine lw_off rfl rfl rfl (rfl) ?_
                refine lw_val rfl (run_pickF (v := .bool _) rfl (rfl) rfl) ?_
                refine lw_val rfl (run_assign (v := .bool _) rfl) ?_
                refine lw_nil ?_
                refine cw_region ?_
                refine lw_val rfl (run_move (v := .int .i64 _) rfl) ?_
                refine lw_val rfl (run_add64 rfl rfl rfl (inI (by omega) (by omega))) ?_
                refine lw_val rfl (run_assign (v := .int .i64 _) rfl) ?_
                refine lw_nil ?_
                exact ⟨(i + 1, false, st2, a + (nn : Nat)), by simp only; omega, ⟨by simp only; omega, hSI2, fun _ => by simp only; have := hmu h20; omega, (fun h => by cases h), by simp only; omega, by simp only; omega, ⟨by simp only; omega, by simp only; omega⟩, hs⟩, ⟨rfl, rfl, trivial⟩, by repeat (first | exact Out.mix _ _ _ | refine Out.updo rfl ?_ | refine Out.upd rfl ?_ | refine Out.mixIn rfl ?_)⟩
              · skip
                refine cw_region ?_
                refine lw_val rfl (run_move (v := errV ad _) rfl) ?_
                refine lw_val rfl (run_neerrn (ad := ad) rfl) ?_
                refine lw_val rfl (run_move (v := .bool _) rfl) ?_
                refine lw_off rfl rfl rfl (rfl) ?_
                refine lw_off rfl rfl rfl (rfl) ?_
                refine lw_off rfl rfl rfl (rfl) ?_
                refine lw_off rfl rfl rfl (rfl) ?_
                refine lw_offU rfl rfl rfl ?_
                refine lw_off rfl rfl rfl (rfl) ?_
                refine lw_val rfl (run_pickF (v := .bool _) rfl (rfl) rfl) ?_
                refine lw_val rfl (run_move (v := .bool _) rfl) ?_
                refine lw_on rfl rfl rfl ?_
                refine lw_val rfl (run_move (v := .int .i64 _) rfl) ?_
                refine lw_on rfl rfl rfl ?_
                refine lw_val rfl (run_move (v := .int .i64 _) rfl) ?_
                refine lw_on rfl rfl rfl ?_
                refine lw_val rfl (run_sub64 rfl rfl (c := ((cnt st : Nat) : Int) - ((cnt st2 : Nat) : Int)) rfl (inI (by simp only [cnt]; omega) (by simp only [cnt]; omega))) ?_
                refine lw_on rfl rfl rfl ?_
                refine lw_val rfl (run_gtr rfl rfl) ?_
                refine lw_val rfl (run_pickF (v := .bool _) rfl rfl rfl) ?_
                refine lw_val rfl (run_move (v := .bool _) rfl) ?_
                refine lw_on rfl rfl (decide_eq_false (by omega)) ?_
                refine lw_val rfl (run_move (v := .int .i64 _) rfl) ?_
                refine lw_on rfl rfl (decide_eq_false (by omega)) ?_
                refine lw_val rfl (run_move (v := .int .i64 _) rfl) ?_
                refine lw_on rfl rfl (decide_eq_false (by omega)) ?_
                refine lw_val rfl (run_gtr rfl rfl) ?_
                refine lw_val rfl (run_pickF (v := .bool _) rfl (decide_eq_false (by omega)) rfl) ?_
                refine lw_nil ?_
                refine cw_iff rfl (decide_eq_false (by omega)) ?_
                refine cw_skip ?_
                refine cw_region ?_
                refine lw_val rfl (run_move (v := errV ad _) rfl) ?_
                refine lw_val rfl (run_eqerrn (ad := ad) rfl) ?_
                refine lw_val rfl (run_move (v := .bool _) rfl) ?_
                refine lw_on rfl rfl (rfl) ?_
                refine lw_val rfl (run_move (v := .bool _) rfl) ?_
                refine lw_on rfl rfl (rfl) ?_
                refine lw_val rfl (run_not rfl) ?_
                refine lw_val rfl (run_pickT (v := .bool _) rfl (rfl) rfl) ?_
                refine lw_val rfl (run_assign (v := .bool _) rfl) ?_
                refine lw_nil ?_
                refine cw_region ?_
                refine lw_val rfl (run_move (v := .int .i64 _) rfl) ?_
                refine lw_val rfl (run_add64 rfl rfl rfl (inI (by omega) (by omega))) ?_
                refine lw_val rfl (run_assign (v := .int .i64 _) rfl) ?_
                refine lw_nil ?_
                exact ⟨(i + 1, true, st2, a + (nn : Nat)), by simp only; omega, ⟨by simp only; omega, hSI2, (fun h => by cases h), fun _ => ⟨hd, hd2⟩, by simp only; omega, by simp only; omega, ⟨by simp only; omega, by simp only; omega⟩, hs⟩, ⟨rfl, rfl, trivial⟩, by repeat (first | exact Out.mix _ _ _ | refine Out.updo rfl ?_ | refine Out.upd rfl ?_ | refine Out.mixIn rfl ?_)⟩
            · intro h20
              replace h20 := not_c h20
              refine cw_exit rfl ?_
              refine cw_seq ?_
              have hov : over = true := by first | exact h20 | (cases over with | true => rfl | false => have := hmu rfl; omega)
              have hdone := hSI.done hKn hUn (fun y hy => (hKp y hy).1) (hfin hov).1 (hfin hov).2
              have hTl : T.length ≤ 21 := by rw [hT, sortT_len]; exact hKl
              refine cw_region ?_
              refine lw_val rfl (run_assign (v := .slice _ _ _) rfl) ?_
              refine lw_nil ?_
              replace hs := hs.addE (own_nil _)
              refine cw_seq ?_
              refine cw_seq ?_
              refine cw_region ?_
              refine lw_val rfl (run_assign (v := .int .i64 _) rfl) ?_
              refine lw_nil ?_
              refine cw_block ?_
              refine cw_loop (X := Nat × SA) [26, 27, 166, 167, 168, 169, 170, 171, 172, 173, 174, 175, 176, 177, 178, 179, 180, 181, 182, 183, 184, 185, 186, 187, 188, 189, 190, 191] (fun y => [(26, .slice y.2.1 ((T.take y.1).filter (stays V)).length y.2.2), (27, .int .i64 (y.1 : Nat))]) (fun y w => y.1 ≤ T.length ∧ Mem g w [own (.slice y.2.1 ((T.take y.1).filter (stays V)).length y.2.2) (textsL ((T.take y.1).filter (stays V))), own (.slice a106 T.length c106) (textsL T), clientC q p ((2 : Nat) : Int) a, StoreC p st, ViewC pv V]) (fun y => T.length - y.1) ((0, (none, 0))) ?_ ?_ ?_
              · exact ⟨rfl, rfl, trivial⟩
              · exact ⟨Nat.zero_le _, hs⟩
              clear hs
              rintro x ξ w hI
              obtain ⟨k, s⟩ := x
              obtain ⟨hk3, hs⟩ := hI
              simp only at hk3 hs
              show cw _ _ _ _ _ _ (updL (mix _ ξ _) [(26, .slice s.1 ((T.take k).filter (stays V)).length s.2), (27, .int .i64 (k : Nat))]) w
              refine cw_seq ?_
              refine cw_seq ?_
              refine cw_region ?_
              refine lw_val rfl (run_move (v := .int .i64 _) rfl) ?_
              refine lw_val rfl (run_move (v := .slice _ _ _) rfl) ?_
              refine lw_val rfl (run_lenS Tryz.underlying48 rfl) ?_
              refine lw_val rfl (run_lss rfl rfl) ?_
              refine lw_nil ?_
              refine cw_if rfl ?_ ?_
              · intro h169
                have g169 := of_decide_eq_true h169
                obtain ⟨y, hy⟩ : ∃ y, T[k]? = some y := ⟨_, List.getElem?_eq_getElem (by omega)⟩
                obtain ⟨b2, o2, rfl, _⟩ := (Rd.own (g := g) (L := _ :: own (.slice a106 T.length c106) (textsL T) :: [_, _, _]) 1 rfl).cells' hs (by rw [textsL_len]; omega)
                have hnx : (T.take (k + 1)).filter (stays V) = (T.take k).filter (stays V) ++ (if stays V y then [y] else []) := by rw [List.take_add_one, hy, List.filter_append]; congr 1; cases h : stays V y <;> simp [h]
                have hwl : ((T.take k).filter (stays V)).length ≤ 21 := Nat.le_trans (List.length_filter_le _ _) (by rw [List.length_take]; omega)
                refine cw_skip ?_
                refine cw_seq ?_
                refine cw_block ?_
                refine cw_seq ?_
                refine cw_region ?_
                refine lw_val rfl (run_move (v := .slice _ _ _) rfl) ?_
                refine lw_val rfl (run_move (v := .int .i64 _) rfl) ?_
                refine lw_val rfl (run_indexAddr Tryz.underlying48 sz9 rfl rfl rfl (by omega) rfl) ?_
                refine lw_val rfl (run_load Tryz.underlying9 rfl rfl (hs.ownAt 1 rfl (textsL_at hy))) ?_
                refine lw_val rfl (run_eqs rfl rfl) ?_
                refine lw_val rfl (run_move (v := .bool _) rfl) ?_
                refine lw_split (t := _) (d := 177) rfl ?_ ?_
                · intro h176
                  have g176 := of_decide_eq_true h176
                  refine lw_off rfl rfl rfl h176 ?_
                  refine lw_off rfl rfl rfl h176 ?_
                  refine lw_off rfl rfl rfl h176 ?_
                  refine lw_off rfl rfl rfl h176 ?_
                  refine lw_off rfl rfl rfl h176 ?_
                  refine lw_off rfl rfl rfl h176 ?_
                  refine lw_val rfl (run_pickT (v := .bool _) rfl h176 rfl) ?_
                  refine lw_nil ?_
                  refine cw_ift rfl rfl ?_
                  refine cw_region ?_
                  refine lw_val rfl (run_move (v := .slice _ _ _) rfl) ?_
                  refine lw_val rfl (run_move (v := .slice _ _ _) rfl) ?_
                  refine lw_val rfl (run_move (v := .int .i64 _) rfl) ?_
                  refine lw_val rfl (run_indexAddr Tryz.underlying48 sz9 rfl rfl rfl (by omega) rfl) ?_
                  refine lw_val rfl (run_load Tryz.underlying9 rfl rfl (hs.ownAt 1 rfl (textsL_at hy))) ?_
                  refine lw_buildSlice hs rfl ([.string y]) Tryz.underlying48 zs9 rfl (by simp [Value.cells]) rfl rfl rfl ?_
                  clear hs
                  intro b190 w hs
                  try simp only [List.set_cons_succ, List.set_cons_zero] at hs
                  refine lw_append hs rfl 1 rfl Tryz.underlying48 in9 rfl rfl rfl (src_of_seq (P := Tryz.prog) Tryz.underlying48 ((Rd.cells (n := 1) (cs := [.string y]) 0 rfl rfl).seq hs) (fun u hu => by simp at hu; subst hu; rfl)) (by simp [textsL] at *; omega) (by simp [textsL] at *; omega) ?_
                  clear hs
                  intro a191 c191 w hs
                  simp only [List.set_cons_succ, List.set_cons_zero] at hs
                  refine lw_val rfl (run_assign (v := .slice _ _ _) rfl) ?_
                  refine lw_nil ?_
                  refine cw_region ?_
                  refine lw_val rfl (run_move (v := .int .i64 _) rfl) ?_
                  refine lw_val rfl (run_add64 rfl rfl rfl (inI (by omega) (by omega))) ?_
                  refine lw_val rfl (run_assign (v := .int .i64 _) rfl) ?_
                  refine lw_nil ?_
                  have hst : stays V y = true := by simp only [stays, Bool.or_eq_true, decide_eq_true_eq]; exact .inl g176
                  rw [hst, if_pos rfl] at hnx
                  exact ⟨(k + 1, (a191, c191)), by simp only; omega, ⟨by simp only; omega, by simp only [hnx, textsL_app, List.length_append, List.length_cons, List.length_nil]; have h3 := hs.tail; rw [textsL_len] at h3; exact h3⟩, ⟨by simp only [hnx, List.length_append, textsL_len]; rfl, rfl, trivial⟩, by repeat (first | exact Out.mix _ _ _ | refine Out.updo rfl ?_ | refine Out.upd rfl ?_ | refine Out.mixIn rfl ?_)⟩
                · intro h176
                  have g176 := of_decide_eq_false h176
                  refine lw_on rfl rfl h176 ?_
                  refine lw_val rfl (run_move (v := .pointer (some _)) rfl) ?_
                  refine lw_on rfl rfl h176 ?_
                  refine lw_val rfl (run_move (v := .slice _ _ _) rfl) ?_
                  refine lw_on rfl rfl h176 ?_
                  refine lw_val rfl (run_move (v := .int .i64 _) rfl) ?_
                  refine lw_on rfl rfl h176 ?_
                  refine lw_val rfl (run_indexAddr Tryz.underlying48 sz9 rfl rfl rfl (by omega) rfl) ?_
                  refine lw_on rfl rfl h176 ?_
                  refine lw_val rfl (run_load Tryz.underlying9 rfl rfl (hs.ownAt 1 rfl (textsL_at hy))) ?_
                  refine lw_on rfl rfl h176 ?_
                  refine lw_call rfl en24 (refers_sl (L := [_, _, _, _]) (hs.arr [4, 0, 1, 2, 3] 5 (by decide)) y) ?_
                  clear hs
                  rintro _ w ⟨rfl, hs⟩
                  replace hs := hs.arr [1, 2, 3, 4, 0] 5 (by decide)
                  refine lw_val rfl (run_pickF (v := .bool _) rfl h176 rfl) ?_
                  refine lw_nil ?_
                  refine cw_if rfl ?_ ?_
                  · intro h183
                    refine cw_region ?_
                    refine lw_val rfl (run_move (v := .slice _ _ _) rfl) ?_
                    refine lw_val rfl (run_move (v := .slice _ _ _) rfl) ?_
                    refine lw_val rfl (run_move (v := .int .i64 _) rfl) ?_
                    refine lw_val rfl (run_indexAddr Tryz.underlying48 sz9 rfl rfl rfl (by omega) rfl) ?_
                    refine lw_val rfl (run_load Tryz.underlying9 rfl rfl (hs.ownAt 1 rfl (textsL_at hy))) ?_
                    refine lw_buildSlice hs rfl ([.string y]) Tryz.underlying48 zs9 rfl (by simp [Value.cells]) rfl rfl rfl ?_
                    clear hs
                    intro b190 w hs
                    try simp only [List.set_cons_succ, List.set_cons_zero] at hs
                    refine lw_append hs rfl 1 rfl Tryz.underlying48 in9 rfl rfl rfl (src_of_seq (P := Tryz.prog) Tryz.underlying48 ((Rd.cells (n := 1) (cs := [.string y]) 0 rfl rfl).seq hs) (fun u hu => by simp at hu; subst hu; rfl)) (by simp [textsL] at *; omega) (by simp [textsL] at *; omega) ?_
                    clear hs
                    intro a191 c191 w hs
                    simp only [List.set_cons_succ, List.set_cons_zero] at hs
                    refine lw_val rfl (run_assign (v := .slice _ _ _) rfl) ?_
                    refine lw_nil ?_
                    refine cw_region ?_
                    refine lw_val rfl (run_move (v := .int .i64 _) rfl) ?_
                    refine lw_val rfl (run_add64 rfl rfl rfl (inI (by omega) (by omega))) ?_
                    refine lw_val rfl (run_assign (v := .int .i64 _) rfl) ?_
                    refine lw_nil ?_
                    have hst : stays V y = true := by simp only [stays, Bool.or_eq_true]; exact .inr h183
                    rw [hst, if_pos rfl] at hnx
                    exact ⟨(k + 1, (a191, c191)), by simp only; omega, ⟨by simp only; omega, by simp only [hnx, textsL_app, List.length_append, List.length_cons, List.length_nil]; have h3 := hs.tail; rw [textsL_len] at h3; exact h3⟩, ⟨by simp only [hnx, List.length_append, textsL_len]; rfl, rfl, trivial⟩, by repeat (first | exact Out.mix _ _ _ | refine Out.updo rfl ?_ | refine Out.upd rfl ?_ | refine Out.mixIn rfl ?_)⟩
                  · intro h183
                    refine cw_skip ?_
                    refine cw_region ?_
                    refine lw_val rfl (run_move (v := .int .i64 _) rfl) ?_
                    refine lw_val rfl (run_add64 rfl rfl rfl (inI (by omega) (by omega))) ?_
                    refine lw_val rfl (run_assign (v := .int .i64 _) rfl) ?_
                    refine lw_nil ?_
                    have hst : stays V y = false := by simp only [stays, h183, Bool.or_false]; exact decide_eq_false g176
                    rw [hst] at hnx
                    simp only [Bool.false_eq_true, if_false, List.append_nil] at hnx
                    exact ⟨(k + 1, s), by simp only; omega, ⟨by simp only; omega, by simp only [hnx]; exact hs⟩, ⟨by simp only [hnx]; rfl, rfl, trivial⟩, by repeat (first | exact Out.mix _ _ _ | refine Out.updo rfl ?_ | refine Out.upd rfl ?_ | refine Out.mixIn rfl ?_)⟩
              · intro h169
                have g169 := of_decide_eq_false h169
                have hkT : k = T.length := by omega
                rw [hkT, List.take_length] at hs ⊢
                have eU : keysOf st.ups = if ((ow : Nat) : Int) ∈ U then [((ow : Nat) : Int)] else [] := by rw [hdone.2, filter_one_id hUn]
                have hwl : (T.filter (stays V)).length ≤ 21 := Nat.le_trans (List.length_filter_le _ _) (by omega)
                refine cw_exit rfl ?_
                refine cw_seq ?_
                refine cw_region ?_
                refine lw_val rfl (run_assign (v := .slice _ _ _) rfl) ?_
                refine lw_nil ?_
                refine cw_seq ?_
                refine cw_seq ?_
                refine cw_region ?_
                refine lw_val rfl (run_move (v := .int .i64 _) rfl) ?_
                refine lw_val rfl (run_geq rfl rfl) ?_
                refine lw_val rfl (run_move (v := .bool _) rfl) ?_
                refine lw_split (t := _) (d := 194) rfl ?_ ?_
                · intro h193
                  have g193 := of_decide_eq_true h193
                  refine lw_on rfl rfl h193 ?_
                  refine lw_val rfl (run_move (v := .int .i64 _) rfl) ?_
                  refine lw_on rfl rfl h193 ?_
                  refine lw_val rfl (run_move (v := .int .i64 _) rfl) ?_
                  refine lw_on rfl rfl h193 ?_
                  refine lw_val rfl (run_leq rfl rfl) ?_
                  refine lw_val rfl (run_pickT (v := .bool _) rfl h193 rfl) ?_
                  refine lw_nil ?_
                  refine cw_if rfl ?_ ?_
                  · intro h197
                    have g197 := of_decide_eq_true h197
                    refine cw_region ?_
                    refine lw_val rfl (run_move (v := .int .i64 _) rfl) ?_
                    refine lw_buildSlice hs rfl ((intsL [((ow : Nat) : Int)])) Tryz.underlying22 zs3 rfl (cells_one (intsL_one _)) rfl rfl rfl ?_
                    clear hs
                    intro b200 w hs
                    try simp only [List.set_cons_succ, List.set_cons_zero] at hs
                    refine lw_val rfl (run_assign (v := .slice _ _ _) rfl) ?_
                    refine lw_nil ?_
                    refine cw_seq ?_
                    refine cw_region ?_
                    refine lw_val rfl (run_move (v := .bool _) rfl) ?_
                    refine lw_val rfl (run_move (v := .bool _) rfl) ?_
                    refine lw_on rfl rfl (hov) ?_
                    refine lw_val rfl (run_move (v := .pointer (some _)) rfl) ?_
                    refine lw_on rfl rfl (hov) ?_
                    refine lw_call rfl en19 (names_sl (L := [_, _, _, _, _]) (hs.arr [4, 0, 1, 2, 3, 5] 6 (by decide)) hnmd.1 hnmd.2) ?_
                    clear hs
                    rintro _ w ⟨a204, c204, rfl, hs⟩
                    refine lw_on rfl rfl (hov) ?_
                    refine lw_val rfl (run_move (v := .slice _ _ _) rfl) ?_
                    refine lw_on rfl rfl (hov) ?_
                    refine lw_call rfl en25 (sameT_sl hs (la := sortT (keysOf st.objs)) (lb := T.filter (stays V)) (Rd.own 0 rfl) (Rd.own 3 rfl) rfl rfl (by rw [sortT_len, keysOf, List.length_map]; omega)) ?_
                    clear hs
                    rintro _ w ⟨rfl, hs⟩
                    refine lw_val rfl (run_pickT (v := .bool _) rfl (hov) rfl) ?_
                    refine lw_val rfl (run_move (v := .bool _) rfl) ?_
                    refine lw_on rfl rfl (decide_eq_true (by rw [hdone.1, hT, sortT_filter])) ?_
                    refine lw_val rfl (run_move (v := .pointer (some _)) rfl) ?_
                    refine lw_on rfl rfl (decide_eq_true (by rw [hdone.1, hT, sortT_filter])) ?_
                    refine lw_call rfl en21 (open_sl (L := [_, _, _, _, _, _]) (hs.arr [1, 0, 2, 3, 4, 5, 6] 7 (by decide)) hupd.1 hupd.2) ?_
                    clear hs
                    rintro _ w ⟨a210, c210, rfl, hs⟩
                    refine lw_on rfl rfl (decide_eq_true (by rw [hdone.1, hT, sortT_filter])) ?_
                    refine lw_val rfl (run_move (v := .slice _ _ _) rfl) ?_
                    refine lw_on rfl rfl (decide_eq_true (by rw [hdone.1, hT, sortT_filter])) ?_
                    refine lw_call rfl en26 (sameI_sl hs (la := sortI (keysOf st.ups)) (lb := [((ow : Nat) : Int)]) (Rd.own 0 rfl) (Rd.cells (n := 1) 3 rfl rfl) rfl rfl (by rw [sortI_len2, keysOf, List.length_map]; omega)) ?_
                    clear hs
                    rintro _ w ⟨rfl, hs⟩
                    refine lw_val rfl (run_pickT (v := .bool _) rfl (decide_eq_true (by rw [hdone.1, hT, sortT_filter])) rfl) ?_
                    refine lw_val rfl (run_assign (v := .bool _) rfl) ?_
                    refine lw_nil ?_
                    refine cw_ret ?_
                    refine res1 (v := .bool _) rfl rfl ?_
                    exact ⟨_, rfl, ret_b (decide_eq_true (by rw [eU, if_pos (by rw [hU, upX_mem]; omega)]; exact sortI_one _)), hs.nil⟩
                  · intro h197
                    have g197 := of_decide_eq_false h197
                    refine cw_skip ?_
                    refine cw_seq ?_
                    refine cw_region ?_
                    refine lw_val rfl (run_move (v := .bool _) rfl) ?_
                    refine lw_val rfl (run_move (v := .bool _) rfl) ?_
                    refine lw_on rfl rfl (hov) ?_
                    refine lw_val rfl (run_move (v := .pointer (some _)) rfl) ?_
                    refine lw_on rfl rfl (hov) ?_
                    refine lw_call rfl en19 (names_sl (L := [_, _, _, _]) (hs.arr [3, 0, 1, 2, 4] 5 (by decide)) hnmd.1 hnmd.2) ?_
                    clear hs
                    rintro _ w ⟨a204, c204, rfl, hs⟩
                    refine lw_on rfl rfl (hov) ?_
                    refine lw_val rfl (run_move (v := .slice _ _ _) rfl) ?_
                    refine lw_on rfl rfl (hov) ?_
                    refine lw_call rfl en25 (sameT_sl hs (la := sortT (keysOf st.objs)) (lb := T.filter (stays V)) (Rd.own 0 rfl) (Rd.own 2 rfl) rfl rfl (by rw [sortT_len, keysOf, List.length_map]; omega)) ?_
                    clear hs
                    rintro _ w ⟨rfl, hs⟩
                    refine lw_val rfl (run_pickT (v := .bool _) rfl (hov) rfl) ?_
                    refine lw_val rfl (run_move (v := .bool _) rfl) ?_
                    refine lw_on rfl rfl (decide_eq_true (by rw [hdone.1, hT, sortT_filter])) ?_
                    refine lw_val rfl (run_move (v := .pointer (some _)) rfl) ?_
                    refine lw_on rfl rfl (decide_eq_true (by rw [hdone.1, hT, sortT_filter])) ?_
                    refine lw_call rfl en21 (open_sl (L := [_, _, _, _, _]) (hs.arr [1, 0, 2, 3, 4, 5] 6 (by decide)) hupd.1 hupd.2) ?_
                    clear hs
                    rintro _ w ⟨a210, c210, rfl, hs⟩
                    refine lw_on rfl rfl (decide_eq_true (by rw [hdone.1, hT, sortT_filter])) ?_
                    refine lw_val rfl (run_move (v := .slice _ _ _) rfl) ?_
                    refine lw_on rfl rfl (decide_eq_true (by rw [hdone.1, hT, sortT_filter])) ?_
                    refine lw_call rfl en26 (sameI_sl hs (la := sortI (keysOf st.ups)) (lb := []) (Rd.own 0 rfl) Rd.nil rfl rfl (by rw [sortI_len2, keysOf, List.length_map]; omega)) ?_
                    clear hs
                    rintro _ w ⟨rfl, hs⟩
                    refine lw_val rfl (run_pickT (v := .bool _) rfl (decide_eq_true (by rw [hdone.1, hT, sortT_filter])) rfl) ?_
                    refine lw_val rfl (run_assign (v := .bool _) rfl) ?_
                    refine lw_nil ?_
                    refine cw_ret ?_
                    refine res1 (v := .bool _) rfl rfl ?_
                    exact ⟨_, rfl, ret_b (decide_eq_true (by rw [eU, if_neg (by rw [hU, upX_mem]; omega)]; exact sortI_nil)), hs.nil⟩
                · intro h193
                  have g193 := of_decide_eq_false h193
                  refine lw_off rfl rfl rfl h193 ?_
                  refine lw_off rfl rfl rfl h193 ?_
                  refine lw_off rfl rfl rfl h193 ?_
                  refine lw_val rfl (run_pickF (v := .bool _) rfl h193 rfl) ?_
                  refine lw_nil ?_
                  refine cw_iff rfl rfl ?_
                  refine cw_skip ?_
                  refine cw_seq ?_
                  refine cw_region ?_
                  refine lw_val rfl (run_move (v := .bool _) rfl) ?_
                  refine lw_val rfl (run_move (v := .bool _) rfl) ?_
                  refine lw_on rfl rfl (hov) ?_
                  refine lw_val rfl (run_move (v := .pointer (some _)) rfl) ?_
                  refine lw_on rfl rfl (hov) ?_
                  refine lw_call rfl en19 (names_sl (L := [_, _, _, _]) (hs.arr [3, 0, 1, 2, 4] 5 (by decide)) hnmd.1 hnmd.2) ?_
                  clear hs
                  rintro _ w ⟨a204, c204, rfl, hs⟩
                  refine lw_on rfl rfl (hov) ?_
                  refine lw_val rfl (run_move (v := .slice _ _ _) rfl) ?_
                  refine lw_on rfl rfl (hov) ?_
                  refine lw_call rfl en25 (sameT_sl hs (la := sortT (keysOf st.objs)) (lb := T.filter (stays V)) (Rd.own 0 rfl) (Rd.own 2 rfl) rfl rfl (by rw [sortT_len, keysOf, List.length_map]; omega)) ?_
                  clear hs
                  rintro _ w ⟨rfl, hs⟩
                  refine lw_val rfl (run_pickT (v := .bool _) rfl (hov) rfl) ?_
                  refine lw_val rfl (run_move (v := .bool _) rfl) ?_
                  refine lw_on rfl rfl (decide_eq_true (by rw [hdone.1, hT, sortT_filter])) ?_
                  refine lw_val rfl (run_move (v := .pointer (some _)) rfl) ?_
                  refine lw_on rfl rfl (decide_eq_true (by rw [hdone.1, hT, sortT_filter])) ?_
                  refine lw_call rfl en21 (open_sl (L := [_, _, _, _, _]) (hs.arr [1, 0, 2, 3, 4, 5] 6 (by decide)) hupd.1 hupd.2) ?_
                  clear hs
                  rintro _ w ⟨a210, c210, rfl, hs⟩
                  refine lw_on rfl rfl (decide_eq_true (by rw [hdone.1, hT, sortT_filter])) ?_
                  refine lw_val rfl (run_move (v := .slice _ _ _) rfl) ?_
                  refine lw_on rfl rfl (decide_eq_true (by rw [hdone.1, hT, sortT_filter])) ?_
                  refine lw_call rfl en26 (sameI_sl hs (la := sortI (keysOf st.ups)) (lb := []) (Rd.own 0 rfl) Rd.nil rfl rfl (by rw [sortI_len2, keysOf, List.length_map]; omega)) ?_
                  clear hs
                  rintro _ w ⟨rfl, hs⟩
                  refine lw_val rfl (run_pickT (v := .bool _) rfl (decide_eq_true (by rw [hdone.1, hT, sortT_filter])) rfl) ?_
                  refine lw_val rfl (run_assign (v := .bool _) rfl) ?_
                  refine lw_nil ?_
                  refine cw_ret ?_
                  refine res1 (v := .bool _) rfl rfl ?_
                  exact ⟨_, rfl, ret_b (decide_eq_true (by rw [eU, if_neg (by rw [hU, upX_mem]; omega)]; exact sortI_nil)), hs.nil⟩
          · intro h111
            have g111 := of_decide_eq_false h111
            refine lw_off rfl rfl rfl h111 ?_
            refine lw_off rfl rfl rfl h111 ?_
            refine lw_val rfl (run_pickF (v := .bool _) rfl h111 rfl) ?_
            refine lw_nil ?_
            refine cw_iff rfl rfl ?_
            refine cw_exit rfl ?_
            refine cw_seq ?_
            have hov : over = true := by first | exact h20 | (cases over with | true => rfl | false => have := hmu rfl; omega)
            have hdone := hSI.done hKn hUn (fun y hy => (hKp y hy).1) (hfin hov).1 (hfin hov).2
            have hTl : T.length ≤ 21 := by rw [hT, sortT_len]; exact hKl
            refine cw_region ?_
            refine lw_val rfl (run_assign (v := .slice _ _ _) rfl) ?_
            refine lw_nil ?_
            replace hs := hs.addE (own_nil _)
            refine cw_seq ?_
            refine cw_seq ?_
            refine cw_region ?_
            refine lw_val rfl (run_assign (v := .int .i64 _) rfl) ?_
            refine lw_nil ?_
            refine cw_block ?_
            refine cw_loop (X := Nat × SA) [26, 27, 166, 167, 168, 169, 170, 171, 172, 173, 174, 175, 176, 177, 178, 179, 180, 181, 182, 183, 184, 185, 186, 187, 188, 189, 190, 191] (fun y => [(26, .slice y.2.1 ((T.take y.1).filter (stays V)).length y.2.2), (27, .int .i64 (y.1 : Nat))]) (fun y w => y.1 ≤ T.length ∧ Mem g w [own (.slice y.2.1 ((T.take y.1).filter (stays V)).length y.2.2) (textsL ((T.take y.1).filter (stays V))), own (.slice a106 T.length c106) (textsL T), clientC q p ((2 : Nat) : Int) a, StoreC p st, ViewC pv V]) (fun y => T.length - y.1) ((0, (none, 0))) ?_ ?_ ?_
            · exact ⟨rfl, rfl, trivial⟩
            · exact ⟨Nat.zero_le _, hs⟩
            clear hs
            rintro x ξ w hI
            obtain ⟨k, s⟩ := x
            obtain ⟨hk3, hs⟩ := hI
            simp only at hk3 hs
            show cw _ _ _ _ _ _ (updL (mix _ ξ _) [(26, .slice s.1 ((T.take k).filter (stays V)).length s.2), (27, .int .i64 (k : Nat))]) w
            refine cw_seq ?_
            refine cw_seq ?_
            refine cw_region ?_
            refine lw_val rfl (run_move (v := .int .i64 _) rfl) ?_
            refine lw_val rfl (run_move (v := .slice _ _ _) rfl) ?_
            refine lw_val rfl (run_lenS Tryz.underlying48 rfl) ?_
            refine lw_val rfl (run_lss rfl rfl) ?_
            refine lw_nil ?_
            refine cw_if rfl ?_ ?_
            · intro h169
              have g169 := of_decide_eq_true h169
              obtain ⟨y, hy⟩ : ∃ y, T[k]? = some y := ⟨_, List.getElem?_eq_getElem (by omega)⟩
              obtain ⟨b2, o2, rfl, _⟩ := (Rd.own (g := g) (L := _ :: own (.slice a106 T.length c106) (textsL T) :: [_, _, _]) 1 rfl).cells' hs (by rw [textsL_len]; omega)
              have hnx : (T.take (k + 1)).filter (stays V) = (T.take k).filter (stays V) ++ (if stays V y then [y] else []) := by rw [List.take_add_one, hy, List.filter_append]; congr 1; cases h : stays V y <;> simp [h]
              have hwl : ((T.take k).filter (stays V)).length ≤ 21 := Nat.le_trans (List.length_filter_le _ _) (by rw [List.length_take]; omega)
              refine cw_skip ?_
              refine cw_seq ?_
              refine cw_block ?_
              refine cw_seq ?_
              refine cw_region ?_
              refine lw_val rfl (run_move (v := .slice _ _ _) rfl) ?_
              refine lw_val rfl (run_move (v := .int .i64 _) rfl) ?_
              refine lw_val rfl (run_indexAddr Tryz.underlying48 sz9 rfl rfl rfl (by omega) rfl) ?_
              refine lw_val rfl (run_load Tryz.underlying9 rfl rfl (hs.ownAt 1 rfl (textsL_at hy))) ?_
              refine lw_val rfl (run_eqs rfl rfl) ?_
              refine lw_val rfl (run_move (v := .bool _) rfl) ?_
              refine lw_split (t := _) (d := 177) rfl ?_ ?_
              · intro h176
                have g176 := of_decide_eq_true h176
                refine lw_off rfl rfl rfl h176 ?_
                refine lw_off rfl rfl rfl h176 ?_
                refine lw_off rfl rfl rfl h176 ?_
                refine lw_off rfl rfl rfl h176 ?_
                refine lw_off rfl rfl rfl h176 ?_
                refine lw_off rfl rfl rfl h176 ?_
                refine lw_val rfl (run_pickT (v := .bool _) rfl h176 rfl) ?_
                refine lw_nil ?_
                refine cw_ift rfl rfl ?_
                refine cw_region ?_
                refine lw_val rfl (run_move (v := .slice _ _ _) rfl) ?_
                refine lw_val rfl (run_move (v := .slice _ _ _) rfl) ?_
                refine lw_val rfl (run_move (v := .int .i64 _) rfl) ?_
                refine lw_val rfl (run_indexAddr Tryz.underlying48 sz9 rfl rfl rfl (by omega) rfl) ?_
                refine lw_val rfl (run_load Tryz.underlying9 rfl rfl (hs.ownAt 1 rfl (textsL_at hy))) ?_
                refine lw_buildSlice hs rfl ([.string y]) Tryz.underlying48 zs9 rfl (by simp [Value.cells]) rfl rfl rfl ?_
                clear hs
                intro b190 w hs
                try simp only [List.set_cons_succ, List.set_cons_zero] at hs
                refine lw_append hs rfl 1 rfl Tryz.underlying48 in9 rfl rfl rfl (src_of_seq (P := Tryz.prog) Tryz.underlying48 ((Rd.cells (n := 1) (cs := [.string y]) 0 rfl rfl).seq hs) (fun u hu => by simp at hu; subst hu; rfl)) (by simp [textsL] at *; omega) (by simp [textsL] at *; omega) ?_
                clear hs
                intro a191 c191 w hs
                simp only [List.set_cons_succ, List.set_cons_zero] at hs
                refine lw_val rfl (run_assign (v := .slice _ _ _) rfl) ?_
                refine lw_nil ?_
                refine cw_region ?_
                refine lw_val rfl (run_move (v := .int .i64 _) rfl) ?_
                refine lw_val rfl (run_add64 rfl rfl rfl (inI (by omega) (by omega))) ?_
                refine lw_val rfl (run_assign (v := .int .i64 _) rfl) ?_
                refine lw_nil ?_
                have hst : stays V y = true := by simp only [stays, Bool.or_eq_true, decide_eq_true_eq]; exact .inl g176
                rw [hst, if_pos rfl] at hnx
                exact ⟨(k + 1, (a191, c191)), by simp only; omega, ⟨by simp only; omega, by simp only [hnx, textsL_app, List.length_append, List.length_cons, List.length_nil]; have h3 := hs.tail; rw [textsL_len] at h3; exact h3⟩, ⟨by simp only [hnx, List.length_append, textsL_len]; rfl, rfl, trivial⟩, by repeat (first | exact Out.mix _ _ _ | refine Out.updo rfl ?_ | refine Out.upd rfl ?_ | refine Out.mixIn rfl ?_)⟩
              · intro h176
                have g176 := of_decide_eq_false h176
                refine lw_on rfl rfl h176 ?_
                refine lw_val rfl (run_move (v := .pointer (some _)) rfl) ?_
                refine lw_on rfl rfl h176 ?_
                refine lw_val rfl (run_move (v := .slice _ _ _) rfl) ?_
                refine lw_on rfl rfl h176 ?_
                refine lw_val rfl (run_move (v := .int .i64 _) rfl) ?_
                refine lw_on rfl rfl h176 ?_
                refine lw_val rfl (run_indexAddr Tryz.underlying48 sz9 rfl rfl rfl (by omega) rfl) ?_
                refine lw_on rfl rfl h176 ?_
                refine lw_val rfl (run_load Tryz.underlying9 rfl rfl (hs.ownAt 1 rfl (textsL_at hy))) ?_
                refine lw_on rfl rfl h176 ?_
                refine lw_call rfl en24 (refers_sl (L := [_, _, _, _]) (hs.arr [4, 0, 1, 2, 3] 5 (by decide)) y) ?_
                clear hs
                rintro _ w ⟨rfl, hs⟩
                replace hs := hs.arr [1, 2, 3, 4, 0] 5 (by decide)
                refine lw_val rfl (run_pickF (v := .bool _) rfl h176 rfl) ?_
                refine lw_nil ?_
                refine cw_if rfl ?_ ?_
                · intro h183
                  refine cw_region ?_
                  refine lw_val rfl (run_move (v := .slice _ _ _) rfl) ?_
                  refine lw_val rfl (run_move (v := .slice _ _ _) rfl) ?_
                  refine lw_val rfl (run_move (v := .int .i64 _) rfl) ?_
                  refine lw_val rfl (run_indexAddr Tryz.underlying48 sz9 rfl rfl rfl (by omega) rfl) ?_
                  refine lw_val rfl (run_load Tryz.underlying9 rfl rfl (hs.ownAt 1 rfl (textsL_at hy))) ?_
                  refine lw_buildSlice hs rfl ([.string y]) Tryz.underlying48 zs9 rfl (by simp [Value.cells]) rfl rfl rfl ?_
                  clear hs
                  intro b190 w hs
                  try simp only [List.set_cons_succ, List.set_cons_zero] at hs
                  refine lw_append hs rfl 1 rfl Tryz.underlying48 in9 rfl rfl rfl (src_of_seq (P := Tryz.prog) Tryz.underlying48 ((Rd.cells (n := 1) (cs := [.string y]) 0 rfl rfl).seq hs) (fun u hu => by simp at hu; subst hu; rfl)) (by simp [textsL] at *; omega) (by simp [textsL] at *; omega) ?_
                  clear hs
                  intro a191 c191 w hs
                  simp only [List.set_cons_succ, List.set_cons_zero] at hs
                  refine lw_val rfl (run_assign (v := .slice _ _ _) rfl) ?_
                  refine lw_nil ?_
                  refine cw_region ?_
                  refine lw_val rfl (run_move (v := .int .i64 _) rfl) ?_
                  refine lw_val rfl (run_add64 rfl rfl rfl (inI (by omega) (by omega))) ?_
                  refine lw_val rfl (run_assign (v := .int .i64 _) rfl) ?_
                  refine lw_nil ?_
                  have hst : stays V y = true := by simp only [stays, Bool.or_eq_true]; exact .inr h183
                  rw [hst, if_pos rfl] at hnx
                  exact ⟨(k + 1, (a191, c191)), by simp only; omega, ⟨by simp only; omega, by simp only [hnx, textsL_app, List.length_append, List.length_cons, List.length_nil]; have h3 := hs.tail; rw [textsL_len] at h3; exact h3⟩, ⟨by simp only [hnx, List.length_append, textsL_len]; rfl, rfl, trivial⟩, by repeat (first | exact Out.mix _ _ _ | refine Out.updo rfl ?_ | refine Out.upd rfl ?_ | refine Out.mixIn rfl ?_)⟩
                · intro h183
                  refine cw_skip ?_
                  refine cw_region ?_
                  refine lw_val rfl (run_move (v := .int .i64 _) rfl) ?_
                  refine lw_val rfl (run_add64 rfl rfl rfl (inI (by omega) (by omega))) ?_
                  refine lw_val rfl (run_assign (v := .int .i64 _) rfl) ?_
                  refine lw_nil ?_
                  have hst : stays V y = false := by simp only [stays, h183, Bool.or_false]; exact decide_eq_false g176
                  rw [hst] at hnx
                  simp only [Bool.false_eq_true, if_false, List.append_nil] at hnx
                  exact ⟨(k + 1, s), by simp only; omega, ⟨by simp only; omega, by simp only [hnx]; exact hs⟩, ⟨by simp only [hnx]; rfl, rfl, trivial⟩, by repeat (first | exact Out.mix _ _ _ | refine Out.updo rfl ?_ | refine Out.upd rfl ?_ | refine Out.mixIn rfl ?_)⟩
            · intro h169
              have g169 := of_decide_eq_false h169
              have hkT : k = T.length := by omega
              rw [hkT, List.take_length] at hs ⊢
              have eU : keysOf st.ups = if ((ow : Nat) : Int) ∈ U then [((ow : Nat) : Int)] else [] := by rw [hdone.2, filter_one_id hUn]
              have hwl : (T.filter (stays V)).length ≤ 21 := Nat.le_trans (List.length_filter_le _ _) (by omega)
              refine cw_exit rfl ?_
              refine cw_seq ?_
              refine cw_region ?_
              refine lw_val rfl (run_assign (v := .slice _ _ _) rfl) ?_
              refine lw_nil ?_
              refine cw_seq ?_
              refine cw_seq ?_
              refine cw_region ?_
              refine lw_val rfl (run_move (v := .int .i64 _) rfl) ?_
              refine lw_val rfl (run_geq rfl rfl) ?_
              refine lw_val rfl (run_move (v := .bool _) rfl) ?_
              refine lw_split (t := _) (d := 194) rfl ?_ ?_
              · intro h193
                have g193 := of_decide_eq_true h193
                refine lw_on rfl rfl h193 ?_
                refine lw_val rfl (run_move (v := .int .i64 _) rfl) ?_
                refine lw_on rfl rfl h193 ?_
                refine lw_val rfl (run_move (v := .int .i64 _) rfl) ?_
                refine lw_on rfl rfl h193 ?_
                refine lw_val rfl (run_leq rfl rfl) ?_
                refine lw_val rfl (run_pickT (v := .bool _) rfl h193 rfl) ?_
                refine lw_nil ?_
                refine cw_if rfl ?_ ?_
                · intro h197
                  have g197 := of_decide_eq_true h197
                  refine cw_region ?_
                  refine lw_val rfl (run_move (v := .int .i64 _) rfl) ?_
                  refine lw_buildSlice hs rfl ((intsL [((ow : Nat) : Int)])) Tryz.underlying22 zs3 rfl (cells_one (intsL_one _)) rfl rfl rfl ?_
                  clear hs
                  intro b200 w hs
                  try simp only [List.set_cons_succ, List.set_cons_zero] at hs
                  refine lw_val rfl (run_assign (v := .slice _ _ _) rfl) ?_
                  refine lw_nil ?_
                  refine cw_seq ?_
                  refine cw_region ?_
                  refine lw_val rfl (run_move (v := .bool _) rfl) ?_
                  refine lw_val rfl (run_move (v := .bool _) rfl) ?_
                  refine lw_on rfl rfl (hov) ?_
                  refine lw_val rfl (run_move (v := .pointer (some _)) rfl) ?_
                  refine lw_on rfl rfl (hov) ?_
                  refine lw_call rfl en19 (names_sl (L := [_, _, _, _, _]) (hs.arr [4, 0, 1, 2, 3, 5] 6 (by decide)) hnmd.1 hnmd.2) ?_
                  clear hs
                  rintro _ w ⟨a204, c204, rfl, hs⟩
                  refine lw_on rfl rfl (hov) ?_
                  refine lw_val rfl (run_move (v := .slice _ _ _) rfl) ?_
                  refine lw_on rfl rfl (hov) ?_
                  refine lw_call rfl en25 (sameT_sl hs (la := sortT (keysOf st.objs)) (lb := T.filter (stays V)) (Rd.own 0 rfl) (Rd.own 3 rfl) rfl rfl (by rw [sortT_len, keysOf, List.length_map]; omega)) ?_
                  clear hs
                  rintro _ w ⟨rfl, hs⟩
                  refine lw_val rfl (run_pickT (v := .bool _) rfl (hov) rfl) ?_
                  refine lw_val rfl (run_move (v := .bool _) rfl) ?_
                  refine lw_on rfl rfl (decide_eq_true (by rw [hdone.1, hT, sortT_filter])) ?_
                  refine lw_val rfl (run_move (v := .pointer (some _)) rfl) ?_
                  refine lw_on rfl rfl (decide_eq_true (by rw [hdone.1, hT, sortT_filter])) ?_
                  refine lw_call rfl en21 (open_sl (L := [_, _, _, _, _, _]) (hs.arr [1, 0, 2, 3, 4, 5, 6] 7 (by decide)) hupd.1 hupd.2) ?_
                  clear hs
                  rintro _ w ⟨a210, c210, rfl, hs⟩
                  refine lw_on rfl rfl (decide_eq_true (by rw [hdone.1, hT, sortT_filter])) ?_
                  refine lw_val rfl (run_move (v := .slice _ _ _) rfl) ?_
                  refine lw_on rfl rfl (decide_eq_true (by rw [hdone.1, hT, sortT_filter])) ?_
                  refine lw_call rfl en26 (sameI_sl hs (la := sortI (keysOf st.ups)) (lb := [((ow : Nat) : Int)]) (Rd.own 0 rfl) (Rd.cells (n := 1) 3 rfl rfl) rfl rfl (by rw [sortI_len2, keysOf, List.length_map]; omega)) ?_
                  clear hs
                  rintro _ w ⟨rfl, hs⟩
                  refine lw_val rfl (run_pickT (v := .bool _) rfl (decide_eq_true (by rw [hdone.1, hT, sortT_filter])) rfl) ?_
                  refine lw_val rfl (run_assign (v := .bool _) rfl) ?_
                  refine lw_nil ?_
                  refine cw_ret ?_
                  refine res1 (v := .bool _) rfl rfl ?_
                  exact ⟨_, rfl, ret_b (decide_eq_true (by rw [eU, if_pos (by rw [hU, upX_mem]; omega)]; exact sortI_one _)), hs.nil⟩
                · intro h197
                  have g197 := of_decide_eq_false h197
                  refine cw_skip ?_
                  refine cw_seq ?_
                  refine cw_region ?_
                  refine lw_val rfl (run_move (v := .bool _) rfl) ?_
                  refine lw_val rfl (run_move (v := .bool _) rfl) ?_
                  refine lw_on rfl rfl (hov) ?_
                  refine lw_val rfl (run_move (v := .pointer (some _)) rfl) ?_
                  refine lw_on rfl rfl (hov) ?_
                  refine lw_call rfl en19 (names_sl (L := [_, _, _, _]) (hs.arr [3, 0, 1, 2, 4] 5 (by decide)) hnmd.1 hnmd.2) ?_
                  clear hs
                  rintro _ w ⟨a204, c204, rfl, hs⟩
                  refine lw_on rfl rfl (hov) ?_
                  refine lw_val rfl (run_move (v := .slice _ _ _) rfl) ?_
                  refine lw_on rfl rfl (hov) ?_
                  refine lw_call rfl en25 (sameT_sl hs (la := sortT (keysOf st.objs)) (lb := T.filter (stays V)) (Rd.own 0 rfl) (Rd.own 2 rfl) rfl rfl (by rw [sortT_len, keysOf, List.length_map]; omega)) ?_
                  clear hs
                  rintro _ w ⟨rfl, hs⟩
                  refine lw_val rfl (run_pickT (v := .bool _) rfl (hov) rfl) ?_
                  refine lw_val rfl (run_move (v := .bool _) rfl) ?_
                  refine lw_on rfl rfl (decide_eq_true (by rw [hdone.1, hT, sortT_filter])) ?_
                  refine lw_val rfl (run_move (v := .pointer (some _)) rfl) ?_
                  refine lw_on rfl rfl (decide_eq_true (by rw [hdone.1, hT, sortT_filter])) ?_
                  refine lw_call rfl en21 (open_sl (L := [_, _, _, _, _]) (hs.arr [1, 0, 2, 3, 4, 5] 6 (by decide)) hupd.1 hupd.2) ?_
                  clear hs
                  rintro _ w ⟨a210, c210, rfl, hs⟩
                  refine lw_on rfl rfl (decide_eq_true (by rw [hdone.1, hT, sortT_filter])) ?_
                  refine lw_val rfl (run_move (v := .slice _ _ _) rfl) ?_
                  refine lw_on rfl rfl (decide_eq_true (by rw [hdone.1, hT, sortT_filter])) ?_
                  refine lw_call rfl en26 (sameI_sl hs (la := sortI (keysOf st.ups)) (lb := []) (Rd.own 0 rfl) Rd.nil rfl rfl (by rw [sortI_len2, keysOf, List.length_map]; omega)) ?_
                  clear hs
                  rintro _ w ⟨rfl, hs⟩
                  refine lw_val rfl (run_pickT (v := .bool _) rfl (decide_eq_true (by rw [hdone.1, hT, sortT_filter])) rfl) ?_
                  refine lw_val rfl (run_assign (v := .bool _) rfl) ?_
                  refine lw_nil ?_
                  refine cw_ret ?_
                  refine res1 (v := .bool _) rfl rfl ?_
                  exact ⟨_, rfl, ret_b (decide_eq_true (by rw [eU, if_neg (by rw [hU, upX_mem]; omega)]; exact sortI_nil)), hs.nil⟩
              · intro h193
                have g193 := of_decide_eq_false h193
                refine lw_off rfl rfl rfl h193 ?_
                refine lw_off rfl rfl rfl h193 ?_
                refine lw_off rfl rfl rfl h193 ?_
                refine lw_val rfl (run_pickF (v := .bool _) rfl h193 rfl) ?_
                refine lw_nil ?_
                refine cw_iff rfl rfl ?_
                refine cw_skip ?_
                refine cw_seq ?_
                refine cw_region ?_
                refine lw_val rfl (run_move (v := .bool _) rfl) ?_
                refine lw_val rfl (run_move (v := .bool _) rfl) ?_
                refine lw_on rfl rfl (hov) ?_
                refine lw_val rfl (run_move (v := .pointer (some _)) rfl) ?_
                refine lw_on rfl rfl (hov) ?_
                refine lw_call rfl en19 (names_sl (L := [_, _, _, _]) (hs.arr [3, 0, 1, 2, 4] 5 (by decide)) hnmd.1 hnmd.2) ?_
                clear hs
                rintro _ w ⟨a204, c204, rfl, hs⟩
                refine lw_on rfl rfl (hov) ?_
                refine lw_val rfl (run_move (v := .slice _ _ _) rfl) ?_
                refine lw_on rfl rfl (hov) ?_
                refine lw_call rfl en25 (sameT_sl hs (la := sortT (keysOf st.objs)) (lb := T.filter (stays V)) (Rd.own 0 rfl) (Rd.own 2 rfl) rfl rfl (by rw [sortT_len, keysOf, List.length_map]; omega)) ?_
                clear hs
                rintro _ w ⟨rfl, hs⟩
                refine lw_val rfl (run_pickT (v := .bool _) rfl (hov) rfl) ?_
                refine lw_val rfl (run_move (v := .bool _) rfl) ?_
                refine lw_on rfl rfl (decide_eq_true (by rw [hdone.1, hT, sortT_filter])) ?_
                refine lw_val rfl (run_move (v := .pointer (some _)) rfl) ?_
                refine lw_on rfl rfl (decide_eq_true (by rw [hdone.1, hT, sortT_filter])) ?_
                refine lw_call rfl en21 (open_sl (L := [_, _, _, _, _]) (hs.arr [1, 0, 2, 3, 4, 5] 6 (by decide)) hupd.1 hupd.2) ?_
                clear hs
                rintro _ w ⟨a210, c210, rfl, hs⟩
                refine lw_on rfl rfl (decide_eq_true (by rw [hdone.1, hT, sortT_filter])) ?_
                refine lw_val rfl (run_move (v := .slice _ _ _) rfl) ?_
                refine lw_on rfl rfl (decide_eq_true (by rw [hdone.1, hT, sortT_filter])) ?_
                refine lw_call rfl en26 (sameI_sl hs (la := sortI (keysOf st.ups)) (lb := []) (Rd.own 0 rfl) Rd.nil rfl rfl (by rw [sortI_len2, keysOf, List.length_map]; omega)) ?_
                clear hs
                rintro _ w ⟨rfl, hs⟩
                refine lw_val rfl (run_pickT (v := .bool _) rfl (decide_eq_true (by rw [hdone.1, hT, sortT_filter])) rfl) ?_
                refine lw_val rfl (run_assign (v := .bool _) rfl) ?_
                refine lw_nil ?_
                refine cw_ret ?_
                refine res1 (v := .bool _) rfl rfl ?_
                exact ⟨_, rfl, ret_b (decide_eq_true (by rw [eU, if_neg (by rw [hU, upX_mem]; omega)]; exact sortI_nil)), hs.nil⟩
end Go.Proofs.YtkogkokmcmallaaGreatDoor
