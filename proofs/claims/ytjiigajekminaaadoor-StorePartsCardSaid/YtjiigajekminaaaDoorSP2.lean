/- StoreParts: the walk. -/
import Derived.Test.YtjiigajekminaaaDoorSPa
import Derived.Test.YtjiigajekminaaaDoorOp
namespace Go.Proofs.YtjiigajekminaaaDoor
set_option linter.all false
open Go.RowKit
attribute [local irreducible] errV
variable {g w : World} {L M : List HP} {ad : Nat → Addr} {p q : Nat} {st : St}

def nBig : ByteArray := ⟨#[98, 105, 103]⟩
theorem nBig_valid : validB nBig.data.toList = true := by decide +kernel
def otherB : List UInt8 := [111, 116, 104, 101, 114]
def spSt (P : List (Int × List UInt8)) (c : Nat) : St := { objs := [], ups := [(1, ⟨nBig, P⟩)], ids := 1, script := [], calls := c, failed := 0 }
def spEnd (o : List (ByteArray × List UInt8)) (c : Nat) : St := { objs := o, ups := [], ids := 1, script := [], calls := c, failed := 0 }
theorem sp_start : St.empty.startR nBig = (1, 0, spSt [] 1) := by
  simp [St.startR, St.next, St.begin, St.empty, St.start1, nBig_valid, aput, spSt]
theorem sp_part (P : List (Int × List UInt8)) (c : Nat) {k : Nat} (hk : k < 256) (b : List UInt8) : (spSt P c).run (St.part1 1 (k : Nat) b) = (0, spSt (aput P (k : Nat) b) (c + 1)) := by
  rw [run_ok rfl]
  unfold St.part1
  simp only [spSt, aget, if_true]
  rw [if_neg (by omega)]
  simp [aput]
theorem sp_none (o : List (ByteArray × List UInt8)) (c : Nat) (k : Int) (b : List UInt8) : (spEnd o c).run (St.part1 1 k b) = (107, spEnd o (c + 1)) := by
  rw [run_ok rfl]; rfl
theorem sp_cnone (o : List (ByteArray × List UInt8)) (c : Nat) (k : Int) : (spEnd o c).run (St.complete1 1 k) = (107, spEnd o (c + 1)) := by
  rw [run_ok rfl]; rfl
theorem sp_abort (P : List (Int × List UInt8)) (c : Nat) : (spSt P c).run (St.abort1 1) = (0, spEnd [] (c + 1)) := by
  rw [run_ok rfl]; simp [St.abort1, spSt, spEnd, aget, adel]
theorem sp_complete (P : List (Int × List UInt8)) (c : Nat) {n : Nat} (hn : n ≤ 256) : (spSt P c).run (St.complete1 1 (n : Nat)) = if haveAll P n then (0, spEnd [(nBig, outK P n)] (c + 1)) else (105, spSt P (c + 1)) := by
  rw [run_ok rfl]
  unfold St.complete1
  simp only [spSt, aget, if_true]
  rw [if_neg (by omega), Int.toNat_natCast]
  split
  · simp [aput, adel, spEnd]
  · rfl
structure SPJ (z : List El) (H : List Nat) (P : List (Int × List UInt8)) : Prop where
  get : ∀ k, k < z.length → aget P ((k : Nat) : Int) = if k ∈ H then (z[k]?).map (·.2.2) else none
  small : ∀ k b, (k, b) ∈ P → b.length ≤ 50
theorem SPJ.start (z : List El) : SPJ z [] [] := ⟨fun k _ => by simp [aget], fun k b h => by simp at h⟩
theorem SPJ.step {z : List El} {H : List Nat} {P : List (Int × List UInt8)} (h : SPJ z H P) {k : Nat} {x : El} (hx : z[k]? = some x) (hl : x.2.2.length ≤ 50) : SPJ z (k :: H) (aput (aput P ((k : Nat) : Int) otherB) ((k : Nat) : Int) x.2.2) := by
  refine ⟨fun j hj => ?_, fun i b hm => ?_⟩
  · by_cases e : j = k
    · subst e
      rw [aget_put_same, if_pos (by simp), hx]
      rfl
    · rw [aget_put_other _ _ (by omega), aget_put_other _ _ (by omega), h.get j hj]
      simp [e]
  · rcases aput_mem hm with hm | hm
    · simp only [Prod.mk.injEq] at hm; rw [hm.2]; exact hl
    · rcases aput_mem hm with hm | hm
      · simp only [Prod.mk.injEq] at hm; rw [hm.2]; decide
      · exact h.small i b hm
theorem SPJ.smallSt {z : List El} {H : List Nat} {P : List (Int × List UInt8)} (h : SPJ z H P) (c : Nat) : (spSt P c).small := ⟨fun n b hm => by simp [spSt] at hm, fun i u hm => by
  simp only [spSt, List.mem_cons, Prod.mk.injEq, List.not_mem_nil, or_false] at hm
  rw [hm.2]
  exact fun k b hb => by have := h.small k b hb; omega⟩
def haveL (n : Nat) (H : List Nat) : List Value := (List.range n).map fun i => .bool (decide (i ∈ H))
theorem haveL_len (n : Nat) (H : List Nat) : (haveL n H).length = n := by simp [haveL]
theorem haveL_at {n k : Nat} {H : List Nat} (h : k < n) : (haveL n H)[k]? = some (.bool (decide (k ∈ H))) := by simp [haveL, h]
theorem haveL_nil (n : Nat) : List.replicate n (Value.bool false) = haveL n [] := by
  refine List.ext_getElem? fun i => ?_
  by_cases h : i < n
  · rw [haveL_at h]; simp [h]
  · rw [List.getElem?_eq_none (by simp; omega), List.getElem?_eq_none (by rw [haveL_len]; omega)]
theorem haveL_set {n k : Nat} {H : List Nat} (hk : k < n) : (haveL n H).set k (.bool true) = haveL n (k :: H) := by
  refine List.ext_getElem? fun i => ?_
  by_cases e : k = i
  · subst e
    rw [List.getElem?_set_self (by rw [haveL_len]; exact hk), haveL_at hk]
    simp
  · rw [List.getElem?_set_ne e]
    by_cases h : i < n
    · have hik : ¬ i = k := fun h => e h.symm
      rw [haveL_at h, haveL_at h]; simp [hik]
    · rw [List.getElem?_eq_none (by rw [haveL_len]; omega), List.getElem?_eq_none (by rw [haveL_len]; omega)]
def missB (H : List Nat) (i : Nat) : Bool := (List.range i).any fun j => !decide (j ∈ H)
theorem miss_succ (H : List Nat) (i : Nat) : missB H (i + 1) = (missB H i || !decide (i ∈ H)) := by simp [missB, List.range_succ]
theorem miss_no {H : List Nat} {n : Nat} (h : missB H n = false) {i : Nat} (hi : i < n) : i ∈ H := by
  simp only [missB, List.any_eq_false, List.mem_range, Bool.not_eq_true', decide_eq_false_iff_not, Classical.not_not] at h
  exact h i hi
theorem miss_yes {H : List Nat} {n : Nat} (h : missB H n = true) : ∃ i, i < n ∧ i ∉ H := by
  simp only [missB, List.any_eq_true, List.mem_range, Bool.not_eq_true', decide_eq_false_iff_not] at h
  exact h
theorem bytesL_app' (l m : List UInt8) : bytesL (l ++ m) = bytesL l ++ bytesL m := by simp [bytesL]
def wantL (z : List El) (i : Nat) : List UInt8 := ((z.take i).map (·.2.2)).flatten
theorem want_succ {z : List El} {i : Nat} {x : El} (h : z[i]? = some x) : wantL z (i + 1) = wantL z i ++ x.2.2 := by
  simp [wantL, List.take_add_one, h]
theorem want_len {z : List El} (h : ∀ x ∈ z, x.2.2.length ≤ 50) : ∀ i, (wantL z i).length ≤ i * 50
  | 0 => by simp [wantL]
  | i + 1 => by
    have ih := want_len h i
    cases hx : z[i]? with
    | some x => rw [want_succ hx, List.length_append]; have := h x (List.mem_of_getElem? hx); omega
    | none =>
      have e : wantL z (i + 1) = wantL z i := by simp [wantL, List.take_add_one, hx]
      rw [e]; omega
theorem SPJ.all {z : List El} {H : List Nat} {P : List (Int × List UInt8)} (h : SPJ z H P) : haveAll P z.length = !missB H z.length := by
  cases hm : missB H z.length with
  | false =>
    refine haveAll_iff.2 fun i hi => ?_
    rw [h.get i hi, if_pos (miss_no hm hi), List.getElem?_eq_getElem hi]
    rfl
  | true =>
    obtain ⟨i, hi, hn⟩ := miss_yes hm
    refine Bool.eq_false_iff.2 fun ha => ?_
    have := haveAll_iff.1 ha i hi
    rw [h.get i hi, if_neg hn] at this
    cases this
theorem SPJ.out {z : List El} {H : List Nat} {P : List (Int × List UInt8)} (h : SPJ z H P) (hm : missB H z.length = false) : ∀ k, k ≤ z.length → outK P k = wantL z k
  | 0, _ => by simp [outK, wantL]
  | k + 1, hk => by
    have hx : z[k]? = some (z[k]'(by omega)) := List.getElem?_eq_getElem _
    have hg : aget P ((k : Nat) : Int) = some (z[k]'(by omega)).2.2 := by rw [h.get k (by omega), if_pos (miss_no hm (by omega)), hx]; rfl
    rw [outK_succ hg, want_succ hx, h.out hm k (by omega)]
theorem sp_big (z : List El) (hz : ∀ x ∈ z, x.2.2.length ≤ 50) (h12 : z.length ≤ 12) (c : Nat) : (spEnd [(nBig, wantL z z.length)] c).small := ⟨fun n b hm => by
  simp only [spEnd, List.mem_cons, Prod.mk.injEq, List.not_mem_nil, or_false] at hm
  rw [hm.2]; have := want_len hz z.length; omega, fun i u hm => by simp [spEnd] at hm⟩
theorem sp_nil (c : Nat) : (spEnd [] c).small := ⟨fun n b hm => by simp [spEnd] at hm, fun i u hm => by simp [spEnd] at hm⟩
theorem sp_open (P : List (Int × List UInt8)) (c : Nat) : sortI (keysOf (spSt P c).ups) = [1] := by simp [spSt, keysOf, sortI]
set_option maxHeartbeats 4000000 in
set_option maxRecDepth 10000 in
theorem storeParts_sl (hA : ErrA ad g) (hs : Mem g w []) {a b : Option Addr} {n c m d : Nat} {z : List El} {ord : List Int} (hz : Rows2 g (.slice a n c) z) (ho : Came g (.slice b m d) (intsL ord)) (hn : n = z.length) (hm : m = ord.length) :
    Calls Tryd.prog 15 #[.slice a n c, .slice b m d] w (Ret fun v w' => v = .bool true ∧ Mem g w' []) := by
  subst hn hm
  have hE := hA.core
  refine calls_cw Tryd.func15 rfl rfl ?_
  skip
  refine cw_seq ?_
  refine cw_region ?_
  first | refine lw_val rfl (run_assign (v := .bool _) rfl) ?_
  refine lw_nil ?_
  refine cw_seq ?_
  refine cw_region ?_
  refine lw_call rfl en20 (first11_sl hA hs) ?_
  clear hs
  rintro _ w ⟨rfl, hs⟩
  first | refine lw_val rfl (run_assign (v := .bool _) rfl) ?_
  refine lw_nil ?_
  refine cw_seq ?_
  refine cw_seq ?_
  refine cw_region ?_
  first | refine lw_val rfl (run_move (v := .bool _) rfl) ?_
  refine lw_val rfl (run_not rfl) ?_
  refine lw_nil ?_
  refine cw_iff rfl (not_f (rfl)) ?_
  refine cw_skip ?_
  refine cw_seq ?_
  refine cw_seq ?_
  refine cw_region ?_
  first | refine lw_val rfl (run_move (v := .slice _ _ _) rfl) ?_
  refine lw_call rfl en60 (worldBytes_sl hs hz rfl (by decide)) ?_
  clear hs
  rintro _ w ⟨b24, hb24, rfl, hs⟩
  refine lw_val rfl (run_not rfl) ?_
  first | refine lw_val rfl (run_move (v := .bool _) rfl) ?_
  refine lw_split (t := _) (d := 26) rfl ?_ ?_
  · intro h24
    replace h24 := not_b h24
    refine lw_off rfl rfl rfl (not_t h24) ?_
    refine lw_off rfl rfl rfl (not_t h24) ?_
    refine lw_off rfl rfl rfl (not_t h24) ?_
    first | refine lw_val rfl (run_pickT (v := .bool _) rfl (not_t h24) rfl) ?_
    first | refine lw_val rfl (run_move (v := .bool _) rfl) ?_
    refine lw_off rfl rfl rfl rfl ?_
    refine lw_off rfl rfl rfl rfl ?_
    refine lw_off rfl rfl rfl rfl ?_
    first | refine lw_val rfl (run_pickT (v := .bool _) rfl rfl rfl) ?_
    first | refine lw_val rfl (run_move (v := .bool _) rfl) ?_
    refine lw_off rfl rfl rfl rfl ?_
    refine lw_off rfl rfl rfl rfl ?_
    first | refine lw_val rfl (run_pickT (v := .bool _) rfl rfl rfl) ?_
    refine lw_nil ?_
    refine cw_ift rfl rfl ?_
    refine cw_seq ?_
    refine cw_region ?_
    first | refine lw_val rfl (run_move (v := .bool _) rfl) ?_
    first | refine lw_val rfl (run_assign (v := .bool _) rfl) ?_
    refine lw_nil ?_
    refine cw_ret ?_
    refine res1 (v := .bool _) rfl rfl ?_
    exact ⟨_, rfl, rfl, hs.nil⟩
  · intro h24
    replace h24 := not_c h24
    obtain ⟨hz1, hz2⟩ := hb24 h24
    have hz3 : ∀ x ∈ z, x.2.2.length ≤ 50 := fun x hx => by have := hz2 x hx; omega
    refine lw_on rfl rfl (not_f h24) ?_
    first | refine lw_val rfl (run_move (v := .slice _ _ _) rfl) ?_
    refine lw_on rfl rfl (not_f h24) ?_
    refine lw_val rfl (run_lenS Tryd.underlying22 rfl) ?_
    refine lw_on rfl rfl (not_f h24) ?_
    refine lw_val rfl (run_gtr rfl rfl) ?_
    first | refine lw_val rfl (run_pickF (v := .bool _) rfl (not_f h24) rfl) ?_
    first | refine lw_val rfl (run_move (v := .bool _) rfl) ?_
    refine lw_split (t := _) (d := 31) rfl ?_ ?_
    · intro h29
      have g29 := of_decide_eq_true h29
      refine lw_off rfl rfl rfl h29 ?_
      refine lw_off rfl rfl rfl h29 ?_
      refine lw_off rfl rfl rfl h29 ?_
      first | refine lw_val rfl (run_pickT (v := .bool _) rfl h29 rfl) ?_
      first | refine lw_val rfl (run_move (v := .bool _) rfl) ?_
      refine lw_off rfl rfl rfl rfl ?_
      refine lw_off rfl rfl rfl rfl ?_
      first | refine lw_val rfl (run_pickT (v := .bool _) rfl rfl rfl) ?_
      refine lw_nil ?_
      refine cw_ift rfl rfl ?_
      refine cw_seq ?_
      refine cw_region ?_
      first | refine lw_val rfl (run_move (v := .bool _) rfl) ?_
      first | refine lw_val rfl (run_assign (v := .bool _) rfl) ?_
      refine lw_nil ?_
      refine cw_ret ?_
      refine res1 (v := .bool _) rfl rfl ?_
      exact ⟨_, rfl, rfl, hs.nil⟩
    · intro h29
      have g29 := of_decide_eq_false h29
      refine lw_on rfl rfl h29 ?_
      first | refine lw_val rfl (run_move (v := .slice _ _ _) rfl) ?_
      refine lw_on rfl rfl h29 ?_
      refine lw_val rfl (run_lenS Tryd.underlying83 rfl) ?_
      refine lw_on rfl rfl h29 ?_
      refine lw_val rfl (run_eqi rfl rfl) ?_
      first | refine lw_val rfl (run_pickF (v := .bool _) rfl h29 rfl) ?_
      first | refine lw_val rfl (run_move (v := .bool _) rfl) ?_
      refine lw_split (t := _) (d := 36) rfl ?_ ?_
      · intro h34
        have g34 := of_decide_eq_true h34
        refine lw_off rfl rfl rfl h34 ?_
        refine lw_off rfl rfl rfl h34 ?_
        first | refine lw_val rfl (run_pickT (v := .bool _) rfl h34 rfl) ?_
        refine lw_nil ?_
        refine cw_ift rfl rfl ?_
        refine cw_seq ?_
        refine cw_region ?_
        first | refine lw_val rfl (run_move (v := .bool _) rfl) ?_
        first | refine lw_val rfl (run_assign (v := .bool _) rfl) ?_
        refine lw_nil ?_
        refine cw_ret ?_
        refine res1 (v := .bool _) rfl rfl ?_
        exact ⟨_, rfl, rfl, hs.nil⟩
      · intro h34
        have g34 := of_decide_eq_false h34
        refine lw_on rfl rfl h34 ?_
        first | refine lw_val rfl (run_move (v := .bool _) rfl) ?_
        refine lw_on rfl rfl h34 ?_
        refine lw_val rfl (run_not rfl) ?_
        first | refine lw_val rfl (run_pickF (v := .bool _) rfl h34 rfl) ?_
        refine lw_nil ?_
        refine cw_iff rfl (not_f (rfl)) ?_
        refine cw_skip ?_
        refine cw_seq ?_
        refine cw_region ?_
        refine lw_call rfl en21 (new_sl hs) ?_
        clear hs
        rintro _ w ⟨p, rfl, hs⟩
        first | refine lw_val rfl (run_assign (v := .pointer (some _)) rfl) ?_ | refine lw_val rfl (run_assign (v := .pointer none) rfl) ?_
        refine lw_nil ?_
        refine cw_seq ?_
        refine cw_seq ?_
        refine cw_region ?_
        first | refine lw_val rfl (run_move (v := .pointer (some _)) rfl) ?_ | refine lw_val rfl (run_move (v := .pointer none) rfl) ?_
        refine lw_val rfl (run_eqpn Tryd.underlying24 rfl rfl) ?_
        refine lw_nil ?_
        refine cw_iff rfl rfl ?_
        refine cw_skip ?_
        refine cw_seq ?_
        refine cw_region ?_
        first | refine lw_val rfl (run_move (v := .pointer (some _)) rfl) ?_ | refine lw_val rfl (run_move (v := .pointer none) rfl) ?_
        refine lw_call rfl en55 (start_sl hE hs (by decide) (by decide) (by decide) sp_start) ?_
        clear hs
        rintro _ w ⟨rfl, hs⟩
        first | refine lw_val rfl (run_move (v := .tuple _) rfl) ?_
        first | refine lw_val rfl (run_extract (v := .int .i64 _) rfl rfl) ?_
        first | refine lw_val rfl (run_extract (v := errV ad _) rfl rfl) ?_ | refine lw_val rfl (run_extract (v := .nilIface) rfl rfl) ?_
        first | refine lw_val rfl (run_assign (v := .int .i64 _) rfl) ?_
        first | refine lw_val rfl (run_assign (v := errV ad _) rfl) ?_ | refine lw_val rfl (run_assign (v := .nilIface) rfl) ?_
        refine lw_nil ?_
        refine cw_seq ?_
        refine cw_seq ?_
        refine cw_region ?_
        first | refine lw_val rfl (run_move (v := errV ad _) rfl) ?_ | refine lw_val rfl (run_move (v := .nilIface) rfl) ?_
        first | refine lw_val rfl (run_neerrn (ad := ad) rfl) ?_ | refine lw_val rfl (run_nenn rfl) ?_
        refine lw_nil ?_
        refine cw_iff rfl (not_f (decide_eq_true rfl)) ?_
        refine cw_skip ?_
        refine cw_seq ?_
        refine cw_region ?_
        first | refine lw_val rfl (run_move (v := .slice _ _ _) rfl) ?_
        refine lw_val rfl (run_lenS Tryd.underlying83 rfl) ?_
        refine lw_makeSlice hs rfl Tryd.underlying65 in4 rfl rfl rfl (l := z.length) (c := z.length) rfl rfl (Nat.le_refl _) (by omega) (by omega) ?_
        clear hs
        intro b53 w hs
        try simp only [List.set_cons_succ, List.set_cons_zero] at hs
        first | refine lw_val rfl (run_assign (v := .slice _ _ _) rfl) ?_
        refine lw_nil ?_
        rw [haveL_nil] at hs
        refine cw_seq ?_
        refine cw_seq ?_
        refine cw_region ?_
        first | refine lw_val rfl (run_assign (v := .int .i64 _) rfl) ?_
        refine lw_nil ?_
        refine cw_block ?_
        refine cw_loop (X := Nat × List Nat × List (Int × List UInt8)) [4, 10, 11, 54, 55, 56, 57, 58, 59, 60, 61, 62, 63, 64, 65, 66, 67, 68, 69, 70, 71, 72, 73, 74, 75, 76, 77, 78, 79, 80, 81, 82, 83, 84, 85, 86, 87] (fun x => [(10, .int .i64 (x.1 : Nat))]) (fun x w => x.1 ≤ ord.length ∧ SPJ z x.2.1 x.2.2 ∧ Mem g w [own (.slice (some ⟨b53, 0, none⟩) z.length z.length) (haveL z.length x.2.1), StoreC p (spSt x.2.2 (1 + 2 * x.1))]) (fun x => ord.length - x.1) ((0, [], [])) ?_ ?_ ?_
        · exact ⟨rfl, trivial⟩
        · exact ⟨Nat.zero_le _, SPJ.start z, hs⟩
        clear hs
        rintro x ξ w hI
        obtain ⟨i, H, P⟩ := x
        obtain ⟨hi, hJ, hs⟩ := hI
        simp only at hi hJ hs
        show cw _ _ _ _ _ _ (updL (mix _ ξ _) [(10, .int .i64 (i : Nat))]) w
        refine cw_seq ?_
        refine cw_seq ?_
        refine cw_region ?_
        first | refine lw_val rfl (run_move (v := .int .i64 _) rfl) ?_
        first | refine lw_val rfl (run_move (v := .slice _ _ _) rfl) ?_
        refine lw_val rfl (run_lenS Tryd.underlying22 rfl) ?_
        refine lw_val rfl (run_lss rfl rfl) ?_
        refine lw_nil ?_
        refine cw_if rfl ?_ ?_
        · intro h57
          have g57 := of_decide_eq_true h57
          obtain ⟨y, hy⟩ : ∃ y, ord[i]? = some y := ⟨ord[i]'(by omega), List.getElem?_eq_getElem _⟩
          obtain ⟨b0, o0, rfl, _⟩ := (ho.rd _).cells' hs (by rw [intsL_len]; omega)
          refine cw_skip ?_
          refine cw_seq ?_
          refine cw_block ?_
          refine cw_seq ?_
          refine cw_region ?_
          first | refine lw_val rfl (run_move (v := .slice _ _ _) rfl) ?_
          first | refine lw_val rfl (run_move (v := .int .i64 _) rfl) ?_
          refine lw_val rfl (run_indexAddr Tryd.underlying22 sz3 rfl rfl rfl (by omega) rfl) ?_
          refine lw_val rfl (run_load Tryd.underlying3 rfl rfl ((ho.rd _).cellAt hs (intsL_at hy))) ?_
          first | refine lw_val rfl (run_move (v := .slice _ _ _) rfl) ?_
          refine lw_val rfl (run_lenS Tryd.underlying83 rfl) ?_
          refine lw_call rfl en34 (number_sl hs _ _ (by omega)) ?_
          clear hs
          rintro _ w ⟨k, hk, rfl, hs⟩
          first | refine lw_val rfl (run_assign (v := .int .i64 _) rfl) ?_
          refine lw_nil ?_
          refine cw_seq ?_
          refine cw_seq ?_
          obtain ⟨xk, hxk⟩ : ∃ xk, z[k]? = some xk := ⟨z[k]'(by omega), List.getElem?_eq_getElem _⟩
          obtain ⟨bz, oz, rfl, _⟩ := (hz.came.rd _).cells' hs (by simp; omega)
          have hxl := hz3 xk (List.mem_of_getElem? hxk)
          refine cw_region ?_
          first | refine lw_val rfl (run_move (v := .pointer (some _)) rfl) ?_ | refine lw_val rfl (run_move (v := .pointer none) rfl) ?_
          first | refine lw_val rfl (run_move (v := .int .i64 _) rfl) ?_
          first | refine lw_val rfl (run_move (v := .int .i64 _) rfl) ?_
          refine lw_buildSlice hs rfl ((bytesL otherB)) Tryd.underlying27 zs5 rfl (cells_one (bytesL_one _)) rfl rfl rfl ?_
          clear hs
          intro b70 w hs
          try simp only [List.set_cons_succ, List.set_cons_zero] at hs
          refine lw_constBytes hs rfl 0 rfl rfl Tryd.underlying27 Tryd.underlying5 rfl ?_
          clear hs
          intro w hs
          try simp only [List.set_cons_succ, List.set_cons_zero] at hs
          refine lw_call rfl en56 (part_sl hE (hs.pick 2 rfl) (by simp only [spSt]; omega) (by simp only [spSt]; omega) (b := otherB) (Rd.rd 0 rfl) (by decide) (sp_part P _ (by omega) otherB)) ?_
          clear hs
          rintro _ w ⟨rfl, hs⟩
          first | refine lw_val rfl (run_neerrn (ad := ad) rfl) ?_ | refine lw_val rfl (run_nenn rfl) ?_
          first | refine lw_val rfl (run_move (v := .bool _) rfl) ?_
          refine lw_on rfl rfl (not_f (decide_eq_true rfl)) ?_
          first | refine lw_val rfl (run_move (v := .pointer (some _)) rfl) ?_ | refine lw_val rfl (run_move (v := .pointer none) rfl) ?_
          refine lw_on rfl rfl (not_f (decide_eq_true rfl)) ?_
          first | refine lw_val rfl (run_move (v := .int .i64 _) rfl) ?_
          refine lw_on rfl rfl (not_f (decide_eq_true rfl)) ?_
          first | refine lw_val rfl (run_move (v := .int .i64 _) rfl) ?_
          refine lw_on rfl rfl (not_f (decide_eq_true rfl)) ?_
          first | refine lw_val rfl (run_move (v := .slice _ _ _) rfl) ?_
          refine lw_on rfl rfl (not_f (decide_eq_true rfl)) ?_
          first | refine lw_val rfl (run_move (v := .int .i64 _) rfl) ?_
          refine lw_on rfl rfl (not_f (decide_eq_true rfl)) ?_
          refine lw_val rfl (run_indexAddr Tryd.underlying83 sz27 rfl rfl rfl (by omega) rfl) ?_
          refine lw_on rfl rfl (not_f (decide_eq_true rfl)) ?_
          refine lw_val rfl (run_load Tryd.underlying27 rfl rfl ((hz.came.rd _).cellAt hs (elV_at hxk))) ?_
          refine lw_on rfl rfl (not_f (decide_eq_true rfl)) ?_
          refine lw_call rfl en56 (part0_sl hE hs (by simp only [spSt]; omega) (by simp only [spSt]; omega) (b := xk.2.2) (hz.each xk (List.mem_of_getElem? hxk)) (by omega) (sp_part _ _ (by omega) xk.2.2)) ?_
          clear hs
          rintro _ w ⟨rfl, hs⟩
          refine lw_on rfl rfl (not_f (decide_eq_true rfl)) ?_
          first | refine lw_val rfl (run_neerrn (ad := ad) rfl) ?_ | refine lw_val rfl (run_nenn rfl) ?_
          first | refine lw_val rfl (run_pickF (v := .bool _) rfl (not_f (decide_eq_true rfl)) rfl) ?_
          refine lw_nil ?_
          refine cw_iff rfl (not_f (decide_eq_true rfl)) ?_
          refine cw_skip ?_
          refine cw_region ?_
          first | refine lw_val rfl (run_move (v := .slice _ _ _) rfl) ?_
          first | refine lw_val rfl (run_move (v := .int .i64 _) rfl) ?_
          refine lw_val rfl (run_indexAddr Tryd.underlying65 sz4 rfl rfl rfl (by omega) rfl) ?_
          refine lw_storeOwn (j := k) (v := .bool true) hs 2 rfl sz4 rfl (by omega) (by rw [haveL_len]; omega) rfl rfl ?_
          clear hs
          intro w hs
          simp only [List.set_cons_succ, List.set_cons_zero] at hs
          rw [haveL_set (by omega)] at hs
          refine lw_nil ?_
          refine cw_region ?_
          first | refine lw_val rfl (run_move (v := .int .i64 _) rfl) ?_
          refine lw_val rfl (run_add64 rfl rfl rfl (inI (by omega) (by omega))) ?_
          first | refine lw_val rfl (run_assign (v := .int .i64 _) rfl) ?_
          refine lw_nil ?_
          exact ⟨(i + 1, k :: H, aput (aput P ((k : Nat) : Int) otherB) ((k : Nat) : Int) xk.2.2), by simp only; omega, ⟨by simp only; omega, hJ.step hxk hxl, hs.arr [2, 0] 3 (by decide)⟩, ⟨rfl, trivial⟩, by repeat (first | exact Out.mix _ _ _ | refine Out.updo rfl ?_ | refine Out.upd rfl ?_ | refine Out.mixIn rfl ?_)⟩
        · intro h57
          have g57 := of_decide_eq_false h57
          refine cw_exit rfl ?_
          refine cw_seq ?_
          refine cw_region ?_
          first | refine lw_val rfl (run_assign (v := .bool _) rfl) ?_
          refine lw_nil ?_
          refine cw_seq ?_
          refine cw_region ?_
          first | refine lw_val rfl (run_assign (v := .slice _ _ _) rfl) ?_
          refine lw_nil ?_
          refine cw_seq ?_
          refine cw_seq ?_
          refine cw_region ?_
          first | refine lw_val rfl (run_assign (v := .int .i64 _) rfl) ?_
          refine lw_nil ?_
          refine cw_block ?_
          refine cw_loop (X := Nat × Option Addr × Nat) [12, 13, 14, 88, 89, 90, 91, 92, 93, 94, 95, 96, 97, 98, 99, 100, 101, 102, 103, 104, 105, 106, 107] (fun x => [(12, .bool (missB H x.1)), (13, .slice x.2.1 (wantL z x.1).length x.2.2), (14, .int .i64 (x.1 : Nat))]) (fun x w => x.1 ≤ z.length ∧ Mem g w [own (.slice x.2.1 (wantL z x.1).length x.2.2) (bytesL (wantL z x.1)), own (.slice (some ⟨b53, 0, none⟩) z.length z.length) (haveL z.length H), StoreC p (spSt P (1 + 2 * i))]) (fun x => z.length - x.1) ((0, none, 0)) ?_ ?_ ?_
          · exact ⟨rfl, rfl, rfl, trivial⟩
          · exact ⟨Nat.zero_le _, hs.addE (own_nil _)⟩
          clear hs
          rintro x ξ w hI
          obtain ⟨j, ra, rc⟩ := x
          obtain ⟨hj, hs⟩ := hI
          simp only at hj hs
          have hwl := want_len hz3 j
          show cw _ _ _ _ _ _ (updL (mix _ ξ _) [(12, .bool (missB H j)), (13, .slice ra (wantL z j).length rc), (14, .int .i64 (j : Nat))]) w
          refine cw_seq ?_
          refine cw_seq ?_
          refine cw_region ?_
          first | refine lw_val rfl (run_move (v := .int .i64 _) rfl) ?_
          first | refine lw_val rfl (run_move (v := .slice _ _ _) rfl) ?_
          refine lw_val rfl (run_lenS Tryd.underlying83 rfl) ?_
          refine lw_val rfl (run_lss rfl rfl) ?_
          refine lw_nil ?_
          refine cw_if rfl ?_ ?_
          · intro h91
            have g91 := of_decide_eq_true h91
            obtain ⟨xj, hxj⟩ : ∃ xj, z[j]? = some xj := ⟨z[j]'(by omega), List.getElem?_eq_getElem _⟩
            obtain ⟨bz, oz, rfl, _⟩ := (hz.came.rd _).cells' hs (by simp; omega)
            have hxl := hz3 xj (List.mem_of_getElem? hxj)
            have e1 := want_succ hxj
            refine cw_skip ?_
            refine cw_seq ?_
            refine cw_block ?_
            refine cw_seq ?_
            refine cw_region ?_
            first | refine lw_val rfl (run_move (v := .bool _) rfl) ?_
            first | refine lw_val rfl (run_move (v := .bool _) rfl) ?_
            refine lw_split (t := _) (d := 95) rfl ?_ ?_
            · intro h94
              refine lw_off rfl rfl rfl h94 ?_
              refine lw_off rfl rfl rfl h94 ?_
              refine lw_off rfl rfl rfl h94 ?_
              refine lw_off rfl rfl rfl h94 ?_
              refine lw_off rfl rfl rfl h94 ?_
              first | refine lw_val rfl (run_pickT (v := .bool _) rfl h94 rfl) ?_
              first | refine lw_val rfl (run_assign (v := .bool _) rfl) ?_
              refine lw_nil ?_
              refine cw_region ?_
              first | refine lw_val rfl (run_move (v := .slice _ _ _) rfl) ?_
              first | refine lw_val rfl (run_move (v := .slice _ _ _) rfl) ?_
              first | refine lw_val rfl (run_move (v := .int .i64 _) rfl) ?_
              refine lw_val rfl (run_indexAddr Tryd.underlying83 sz27 rfl rfl rfl (by omega) rfl) ?_
              refine lw_val rfl (run_load Tryd.underlying27 rfl rfl ((hz.came.rd _).cellAt hs (elV_at hxj))) ?_
              refine lw_append hs rfl 0 rfl Tryd.underlying27 in5 rfl rfl rfl (src_of_seq (P := Tryd.prog) Tryd.underlying27 ((hz.each xj (List.mem_of_getElem? hxj)).seq hs) (bytesL_one xj.2.2)) (by simp only [bytesL_len]; omega) (by simp only [bytesL_len]; omega) ?_
              clear hs
              intro a107 c107 w hs
              simp only [List.set_cons_succ, List.set_cons_zero] at hs
              first | refine lw_val rfl (run_assign (v := .slice _ _ _) rfl) ?_
              refine lw_nil ?_
              refine cw_region ?_
              first | refine lw_val rfl (run_move (v := .int .i64 _) rfl) ?_
              refine lw_val rfl (run_add64 rfl rfl rfl (inI (by omega) (by omega))) ?_
              first | refine lw_val rfl (run_assign (v := .int .i64 _) rfl) ?_
              refine lw_nil ?_
              exact ⟨(j + 1, a107, c107), by simp only; omega, ⟨by simp only; omega, by simpa only [e1, bytesL_app', List.length_append, bytesL_len] using hs⟩, ⟨show Value.bool true = Value.bool (missB H (j + 1)) from ret_b (by rw [miss_succ, h94]; rfl), show Value.slice a107 ((bytesL (wantL z j)).length + (bytesL xj.2.2).length) c107 = Value.slice a107 (wantL z (j + 1)).length c107 from by simp only [e1, List.length_append, bytesL_len], rfl, trivial⟩, by repeat (first | exact Out.mix _ _ _ | refine Out.updo rfl ?_ | refine Out.upd rfl ?_ | refine Out.mixIn rfl ?_)⟩
            · intro h94
              refine lw_on rfl rfl h94 ?_
              first | refine lw_val rfl (run_move (v := .slice _ _ _) rfl) ?_
              refine lw_on rfl rfl h94 ?_
              first | refine lw_val rfl (run_move (v := .int .i64 _) rfl) ?_
              refine lw_on rfl rfl h94 ?_
              refine lw_val rfl (run_indexAddr Tryd.underlying65 sz4 rfl rfl rfl (by omega) rfl) ?_
              refine lw_on rfl rfl h94 ?_
              refine lw_val rfl (run_load Tryd.underlying4 rfl rfl (hs.ownAt 1 rfl (haveL_at (show j < z.length by omega)))) ?_
              refine lw_on rfl rfl h94 ?_
              refine lw_val rfl (run_not rfl) ?_
              first | refine lw_val rfl (run_pickF (v := .bool _) rfl h94 rfl) ?_
              first | refine lw_val rfl (run_assign (v := .bool _) rfl) ?_
              refine lw_nil ?_
              refine cw_region ?_
              first | refine lw_val rfl (run_move (v := .slice _ _ _) rfl) ?_
              first | refine lw_val rfl (run_move (v := .slice _ _ _) rfl) ?_
              first | refine lw_val rfl (run_move (v := .int .i64 _) rfl) ?_
              refine lw_val rfl (run_indexAddr Tryd.underlying83 sz27 rfl rfl rfl (by omega) rfl) ?_
              refine lw_val rfl (run_load Tryd.underlying27 rfl rfl ((hz.came.rd _).cellAt hs (elV_at hxj))) ?_
              refine lw_append hs rfl 0 rfl Tryd.underlying27 in5 rfl rfl rfl (src_of_seq (P := Tryd.prog) Tryd.underlying27 ((hz.each xj (List.mem_of_getElem? hxj)).seq hs) (bytesL_one xj.2.2)) (by simp only [bytesL_len]; omega) (by simp only [bytesL_len]; omega) ?_
              clear hs
              intro a107 c107 w hs
              simp only [List.set_cons_succ, List.set_cons_zero] at hs
              first | refine lw_val rfl (run_assign (v := .slice _ _ _) rfl) ?_
              refine lw_nil ?_
              refine cw_region ?_
              first | refine lw_val rfl (run_move (v := .int .i64 _) rfl) ?_
              refine lw_val rfl (run_add64 rfl rfl rfl (inI (by omega) (by omega))) ?_
              first | refine lw_val rfl (run_assign (v := .int .i64 _) rfl) ?_
              refine lw_nil ?_
              exact ⟨(j + 1, a107, c107), by simp only; omega, ⟨by simp only; omega, by simpa only [e1, bytesL_app', List.length_append, bytesL_len] using hs⟩, ⟨show Value.bool (!decide (j ∈ H)) = Value.bool (missB H (j + 1)) from ret_b (by rw [miss_succ, h94]; rfl), show Value.slice a107 ((bytesL (wantL z j)).length + (bytesL xj.2.2).length) c107 = Value.slice a107 (wantL z (j + 1)).length c107 from by simp only [e1, List.length_append, bytesL_len], rfl, trivial⟩, by repeat (first | exact Out.mix _ _ _ | refine Out.updo rfl ?_ | refine Out.upd rfl ?_ | refine Out.mixIn rfl ?_)⟩
          · intro h91
            have g91 := of_decide_eq_false h91
            obtain rfl : j = z.length := by omega
            obtain ⟨x1, s1, hk1⟩ : ∃ x1 s1, (spSt P (1 + 2 * i)).run (St.complete1 1 (z.length : Nat)) = (x1, s1) := ⟨_, _, rfl⟩
            have hk2 := sp_complete P (1 + 2 * i) (n := z.length) (by omega)
            rw [hk1, hJ.all] at hk2
            refine cw_exit rfl ?_
            refine cw_seq ?_
            refine cw_region ?_
            first | refine lw_val rfl (run_move (v := .pointer (some _)) rfl) ?_ | refine lw_val rfl (run_move (v := .pointer none) rfl) ?_
            first | refine lw_val rfl (run_move (v := .int .i64 _) rfl) ?_
            first | refine lw_val rfl (run_move (v := .slice _ _ _) rfl) ?_
            refine lw_val rfl (run_lenS Tryd.underlying83 rfl) ?_
            refine lw_call rfl en58 (complete_sl hE (hJ.smallSt _) (hs.pick 2 rfl) (by simp only [spSt]; omega) (by simp only [spSt]; omega) hk1) ?_
            clear hs
            rintro _ w ⟨rfl, hs⟩
            first | refine lw_val rfl (run_assign (v := errV ad _) rfl) ?_ | refine lw_val rfl (run_assign (v := .nilIface) rfl) ?_
            refine lw_nil ?_
            refine cw_seq ?_
            refine cw_seq ?_
            refine cw_region ?_
            first | refine lw_val rfl (run_move (v := .bool _) rfl) ?_
            refine lw_nil ?_
            refine cw_if rfl ?_ ?_
            · intro h113
              rw [h113] at hk2
              simp only [Bool.not_true, Bool.false_eq_true, if_false, Prod.mk.injEq] at hk2
              obtain ⟨rfl, rfl⟩ := hk2
              refine cw_seq ?_
              refine cw_region ?_
              first | refine lw_val rfl (run_move (v := .pointer (some _)) rfl) ?_ | refine lw_val rfl (run_move (v := .pointer none) rfl) ?_
              refine lw_call rfl en24 (bytes_sl hs (hJ.smallSt _) nBig (o := none) rfl) ?_
              clear hs
              rintro _ w ⟨a116, c116, rfl, hs⟩
              first | refine lw_val rfl (run_move (v := .tuple _) rfl) ?_
              first | refine lw_val rfl (run_extract (v := .slice _ _ _) rfl rfl) ?_
              first | refine lw_val rfl (run_extract (v := .bool _) rfl rfl) ?_
              first | refine lw_val rfl (run_assign (v := .slice _ _ _) rfl) ?_
              first | refine lw_val rfl (run_assign (v := .bool _) rfl) ?_
              refine lw_nil ?_
              refine cw_seq ?_
              refine cw_seq ?_
              refine cw_region ?_
              first | refine lw_val rfl (run_move (v := errV ad _) rfl) ?_ | refine lw_val rfl (run_move (v := .nilIface) rfl) ?_
              refine lw_call rfl en25 (is_sl hA hs (d := 105) (.inr (by decide)) _) ?_
              clear hs
              rintro _ w ⟨rfl, hs⟩
              refine lw_val rfl (run_not rfl) ?_
              first | refine lw_val rfl (run_move (v := .bool _) rfl) ?_
              refine lw_on rfl rfl (not_f (decide_eq_true rfl)) ?_
              first | refine lw_val rfl (run_move (v := .bool _) rfl) ?_
              first | refine lw_val rfl (run_pickF (v := .bool _) rfl (not_f (decide_eq_true rfl)) rfl) ?_
              first | refine lw_val rfl (run_move (v := .bool _) rfl) ?_
              refine lw_on rfl rfl (rfl) ?_
              first | refine lw_val rfl (run_move (v := .pointer (some _)) rfl) ?_ | refine lw_val rfl (run_move (v := .pointer none) rfl) ?_
              refine lw_on rfl rfl (rfl) ?_
              refine lw_call rfl en54 (open_sl (hs.pick 1 rfl) (fun x hx => by simp [spSt, keysOf] at hx; subst hx; exact inI (by decide) (by decide)) (by simp [spSt])) ?_
              clear hs
              rintro _ w ⟨a127, c127, rfl, hs⟩
              rw [sp_open] at hs ⊢
              refine lw_on rfl rfl (rfl) ?_
              first | refine lw_val rfl (run_move (v := .int .i64 _) rfl) ?_
              refine lw_on rfl rfl (rfl) ?_
              refine lw_buildSlice hs rfl ((intsL [1])) Tryd.underlying22 zs3 rfl (cells_one (intsL_one _)) rfl rfl rfl ?_
              clear hs
              intro b129 w hs
              try simp only [List.set_cons_succ, List.set_cons_zero] at hs
              refine lw_on rfl rfl (rfl) ?_
              refine lw_call rfl en59 (sameI_sl (la := [1]) (lb := [1]) hs (Rd.own 1 rfl) (Rd.cells (n := 1) (cs := intsL [1]) 0 rfl rfl) rfl rfl (by decide)) ?_
              clear hs
              rintro _ w ⟨rfl, hs⟩
              refine lw_on rfl rfl (rfl) ?_
              refine lw_val rfl (run_not rfl) ?_
              first | refine lw_val rfl (run_pickF (v := .bool _) rfl (rfl) rfl) ?_
              first | refine lw_val rfl (run_move (v := .bool _) rfl) ?_
              refine lw_on rfl rfl (not_f (decide_eq_true rfl)) ?_
              first | refine lw_val rfl (run_move (v := .pointer (some _)) rfl) ?_ | refine lw_val rfl (run_move (v := .pointer none) rfl) ?_
              refine lw_on rfl rfl (not_f (decide_eq_true rfl)) ?_
              first | refine lw_val rfl (run_move (v := .int .i64 _) rfl) ?_
              refine lw_on rfl rfl (not_f (decide_eq_true rfl)) ?_
              refine lw_call rfl en47 (abort_sl hE (hs.pick 2 rfl) (by simp only [spSt]; omega) (by simp only [spSt]; omega) (sp_abort P _)) ?_
              clear hs
              rintro _ w ⟨rfl, hs⟩
              refine lw_on rfl rfl (not_f (decide_eq_true rfl)) ?_
              first | refine lw_val rfl (run_neerrn (ad := ad) rfl) ?_ | refine lw_val rfl (run_nenn rfl) ?_
              first | refine lw_val rfl (run_pickF (v := .bool _) rfl (not_f (decide_eq_true rfl)) rfl) ?_
              refine lw_nil ?_
              refine cw_iff rfl (not_f (decide_eq_true rfl)) ?_
              refine cw_skip ?_
              refine cw_seq ?_
              refine cw_region ?_
              first | refine lw_val rfl (run_move (v := .pointer (some _)) rfl) ?_ | refine lw_val rfl (run_move (v := .pointer none) rfl) ?_
              refine lw_call rfl en54 (open_none hs rfl) ?_
              clear hs
              rintro _ w ⟨a140, c140, rfl, hs⟩
              refine lw_val rfl (run_lenS Tryd.underlying22 rfl) ?_
              refine lw_val rfl (run_eqi rfl rfl) ?_
              first | refine lw_val rfl (run_move (v := .bool _) rfl) ?_
              refine lw_on rfl rfl (decide_eq_true rfl) ?_
              first | refine lw_val rfl (run_move (v := .pointer (some _)) rfl) ?_ | refine lw_val rfl (run_move (v := .pointer none) rfl) ?_
              refine lw_on rfl rfl (decide_eq_true rfl) ?_
              first | refine lw_val rfl (run_move (v := .int .i64 _) rfl) ?_
              refine lw_on rfl rfl (decide_eq_true rfl) ?_
              refine lw_call rfl en58 (complete_sl hE (sp_nil _) (hs.pick 1 rfl) (by simp only [spEnd]; omega) (by simp only [spEnd]; omega) (sp_cnone [] _ 0)) ?_
              clear hs
              rintro _ w ⟨rfl, hs⟩
              refine lw_on rfl rfl (decide_eq_true rfl) ?_
              refine lw_call rfl en25 (is_sl hA hs (d := 107) (.inr (by decide)) _) ?_
              clear hs
              rintro _ w ⟨rfl, hs⟩
              first | refine lw_val rfl (run_pickT (v := .bool _) rfl (decide_eq_true rfl) rfl) ?_
              first | refine lw_val rfl (run_assign (v := .bool _) rfl) ?_
              refine lw_nil ?_
              refine cw_ret ?_
              refine res1 (v := .bool _) rfl rfl ?_
              exact ⟨_, rfl, ret_b (decide_eq_true rfl), hs.nil⟩
            · intro h113
              rw [h113, hJ.out h113 _ (Nat.le_refl _)] at hk2
              simp only [Bool.not_false, if_true, Prod.mk.injEq] at hk2
              obtain ⟨rfl, rfl⟩ := hk2
              refine cw_skip ?_
              refine cw_seq ?_
              refine cw_region ?_
              first | refine lw_val rfl (run_move (v := .pointer (some _)) rfl) ?_ | refine lw_val rfl (run_move (v := .pointer none) rfl) ?_
              refine lw_call rfl en24 (bytes_sl hs (sp_big z hz3 (by omega) _) nBig (o := some (wantL z z.length)) (by simp [spEnd, aget])) ?_
              clear hs
              rintro _ w ⟨a151, c151, rfl, hs⟩
              first | refine lw_val rfl (run_move (v := .tuple _) rfl) ?_
              first | refine lw_val rfl (run_extract (v := .slice _ _ _) rfl rfl) ?_
              first | refine lw_val rfl (run_extract (v := .bool _) rfl rfl) ?_
              first | refine lw_val rfl (run_assign (v := .slice _ _ _) rfl) ?_
              first | refine lw_val rfl (run_assign (v := .bool _) rfl) ?_
              refine lw_nil ?_
              refine cw_seq ?_
              refine cw_region ?_
              first | refine lw_val rfl (run_move (v := errV ad _) rfl) ?_ | refine lw_val rfl (run_move (v := .nilIface) rfl) ?_
              first | refine lw_val rfl (run_eqerrn (ad := ad) rfl) ?_ | refine lw_val rfl (run_eqnn rfl) ?_
              first | refine lw_val rfl (run_move (v := .bool _) rfl) ?_
              refine lw_on rfl rfl (decide_eq_true rfl) ?_
              first | refine lw_val rfl (run_move (v := .bool _) rfl) ?_
              first | refine lw_val rfl (run_pickT (v := .bool _) rfl (decide_eq_true rfl) rfl) ?_
              first | refine lw_val rfl (run_move (v := .bool _) rfl) ?_
              refine lw_on rfl rfl (rfl) ?_
              first | refine lw_val rfl (run_move (v := .slice _ _ _) rfl) ?_
              refine lw_on rfl rfl (rfl) ?_
              first | refine lw_val rfl (run_move (v := .slice _ _ _) rfl) ?_
              refine lw_on rfl rfl (rfl) ?_
              refine lw_call rfl en38 (sameB_sl (la := wantL z z.length) (lb := wantL z z.length) hs (Rd.own 0 rfl) (Rd.own 2 rfl) rfl rfl (by omega)) ?_
              clear hs
              rintro _ w ⟨rfl, hs⟩
              first | refine lw_val rfl (run_pickT (v := .bool _) rfl (rfl) rfl) ?_
              first | refine lw_val rfl (run_move (v := .bool _) rfl) ?_
              refine lw_on rfl rfl (decide_eq_true rfl) ?_
              first | refine lw_val rfl (run_move (v := .pointer (some _)) rfl) ?_ | refine lw_val rfl (run_move (v := .pointer none) rfl) ?_
              refine lw_on rfl rfl (decide_eq_true rfl) ?_
              refine lw_call rfl en54 (open_none (hs.pick 1 rfl) rfl) ?_
              clear hs
              rintro _ w ⟨a166, c166, rfl, hs⟩
              refine lw_on rfl rfl (decide_eq_true rfl) ?_
              refine lw_val rfl (run_lenS Tryd.underlying22 rfl) ?_
              refine lw_on rfl rfl (decide_eq_true rfl) ?_
              refine lw_val rfl (run_eqi rfl rfl) ?_
              first | refine lw_val rfl (run_pickT (v := .bool _) rfl (decide_eq_true rfl) rfl) ?_
              first | refine lw_val rfl (run_move (v := .bool _) rfl) ?_
              refine lw_on rfl rfl (decide_eq_true rfl) ?_
              first | refine lw_val rfl (run_move (v := .pointer (some _)) rfl) ?_ | refine lw_val rfl (run_move (v := .pointer none) rfl) ?_
              refine lw_on rfl rfl (decide_eq_true rfl) ?_
              first | refine lw_val rfl (run_move (v := .int .i64 _) rfl) ?_
              refine lw_on rfl rfl (decide_eq_true rfl) ?_
              refine lw_call rfl en56 (part_sl hE (hs.pick 1 rfl) (by simp only [spEnd]; omega) (by simp only [spEnd]; omega) (b := []) Rd.nil (by decide) (sp_none _ _ 0 [])) ?_
              clear hs
              rintro _ w ⟨rfl, hs⟩
              refine lw_on rfl rfl (decide_eq_true rfl) ?_
              refine lw_call rfl en25 (is_sl hA hs (d := 107) (.inr (by decide)) _) ?_
              clear hs
              rintro _ w ⟨rfl, hs⟩
              first | refine lw_val rfl (run_pickT (v := .bool _) rfl (decide_eq_true rfl) rfl) ?_
              first | refine lw_val rfl (run_assign (v := .bool _) rfl) ?_
              refine lw_nil ?_
              refine cw_ret ?_
              refine res1 (v := .bool _) rfl rfl ?_
              exact ⟨_, rfl, ret_b (decide_eq_true rfl), hs.nil⟩
end Go.Proofs.YtjiigajekminaaaDoor
