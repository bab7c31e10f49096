/- StoreCopies: the walk. -/
import Derived.Test.YtjiigajekminaaaDoorCn
import Derived.Test.YtjiigajekminaaaDoorU2
namespace Go.Proofs.YtjiigajekminaaaDoor
set_option linter.all false
open Go.RowKit
attribute [local irreducible] errV
variable {g w : World} {L M : List HP} {ad : Nat → Addr} {p q : Nat} {st : St}

def nCa : ByteArray := ⟨#[97]⟩
def nCu : ByteArray := ⟨#[117]⟩
def nCz : ByteArray := ⟨#[122]⟩
theorem nCa_valid : validB nCa.data.toList = true := by decide +kernel
theorem nCu_valid : validB nCu.data.toList = true := by decide +kernel
theorem nCaz : ¬ nCa = nCz := by decide +kernel
def badN (l : List Int) : Nat := (l.filter fun x => decide (x = 1 ∨ x = 2)).length
def scSt (l : List UInt8) (outs : List Int) (i : Nat) : St := { objs := [(nCa, l)], ups := [(1, ⟨nCu, []⟩)], ids := 1, script := outs.drop i, calls := 2 + i, failed := badN (outs.take i) }
theorem badN_succ {outs : List Int} {i : Nat} {x : Int} (h : outs[i]? = some x) : badN (outs.take (i + 1)) = badN (outs.take i) + (if x = 1 ∨ x = 2 then 1 else 0) := by
  unfold badN
  rw [List.take_add_one, h, List.filter_append, List.length_append]
  by_cases hx : x = 1 ∨ x = 2 <;> simp [hx]
theorem badN_le (outs : List Int) (i : Nat) : badN (outs.take i) ≤ i := by
  unfold badN
  exact Nat.le_trans (List.length_filter_le _ _) (by rw [List.length_take]; omega)
theorem sc_open {l : List UInt8} {outs : List Int} {i : Nat} : sortI (keysOf (scSt l outs i).ups) = [1] := by simp [scSt, keysOf, sortI]
theorem sc_next {l : List UInt8} {outs : List Int} {i : Nat} {x : Int} (h : outs[i]? = some x) : (scSt l outs i).next = x ∧ (scSt l outs i).begin = scSt l outs (i + 1) := by
  obtain ⟨hlt, rfl⟩ := List.getElem?_eq_some_iff.1 h
  have e : outs.drop i = outs[i] :: outs.drop (i + 1) := List.drop_eq_getElem_cons hlt
  have h1 : (scSt l outs i).next = outs[i] := by show (outs.drop i).headD 0 = _; rw [e]; rfl
  refine ⟨h1, ?_⟩
  unfold St.begin
  rw [h1]
  simp only [scSt, badN_succ h, e, List.tail_cons]
  congr 1
theorem sc_small {l : List UInt8} (h : l.length ≤ 1000) (outs : List Int) (i : Nat) : (scSt l outs i).small := ⟨fun n b hm => by simp [scSt] at hm; rw [hm.2]; omega, fun i u hm => by simp only [scSt, List.mem_cons, Prod.mk.injEq, List.not_mem_nil, or_false] at hm; rw [hm.2]; exact fun _ _ h => by simp at h⟩
theorem sc_head {l : List UInt8} {outs : List Int} {i : Nat} {x : Int} (h : outs[i]? = some x) : (scSt l outs i).headR nCa = if x = 1 ∨ x = 2 then (0, 0, 111, scSt l outs (i + 1)) else (((l.length : Nat) : Int), ((crcMore 0 l : Nat) : Int), 0, scSt l outs (i + 1)) := by
  obtain ⟨h1, h2⟩ := sc_next (l := l) h
  unfold St.headR
  rw [h1, h2]
  have h0 : (scSt l outs (i + 1)).head1 nCa = (0, ((l.length : Nat) : Int), ((crcMore 0 l : Nat) : Int)) := by simp [St.head1, scSt, aget]
  rw [h0]
  simp
theorem sc_put (l : List UInt8) : St.empty.run (St.put1 nCa l) = (0, oneSt nCa l 1) := put_first nCa_valid l
theorem sc_start (l : List UInt8) : (oneSt nCa l 1).startR nCu = (1, 0, { objs := [(nCa, l)], ups := [(1, ⟨nCu, []⟩)], ids := 1, script := [], calls := 2, failed := 0 }) := by
  simp [St.startR, St.next, St.begin, oneSt, St.start1, nCu_valid, aput]
theorem put1_cnt (n : ByteArray) (b : List UInt8) (st : St) : (st.run (St.put1 n b)).2.calls = st.calls + 1 ∧ (st.run (St.put1 n b)).2.failed ≤ st.failed + 1 := by
  have h : ∀ s : St, (s.put1 n b).2.calls = s.calls ∧ (s.put1 n b).2.failed = s.failed := fun s => by unfold St.put1; split <;> exact ⟨rfl, rfl⟩
  unfold St.run
  split
  · exact ⟨rfl, by simp only [St.begin]; split <;> omega⟩
  · simp only [h]; exact ⟨rfl, by simp only [St.begin]; split <;> omega⟩
set_option maxHeartbeats 2000000 in
set_option maxRecDepth 10000 in
theorem storeCopies_sl (hA : ErrA ad g) (hs : Mem g w []) {a b : Option Addr} {n c m d : Nat} {l : List UInt8} {outs : List Int} (hb : Came g (.slice a n c) (bytesL l)) (ho : Came g (.slice b m d) (intsL outs)) (hn : n = l.length) (hm : m = outs.length) :
    Calls Tryd.prog 16 #[.slice a n c, .slice b m d] w (Ret fun v w' => v = .bool true ∧ Mem g w' []) := by
  subst hn hm
  have hE := hA.core
  refine calls_cw Tryd.func16 rfl rfl ?_
  skip
  refine cw_seq ?_
  refine cw_region ?_
  first | refine lw_val rfl (run_assign (v := .bool _) rfl) ?_
  refine lw_nil ?_
  refine cw_seq ?_
  refine cw_region ?_
  refine lw_call rfl en20 (first11_sl hA hs) ?_
  clear hs
  rintro _ w ⟨rfl, hs⟩
  first | refine lw_val rfl (run_assign (v := .bool _) rfl) ?_
  refine lw_nil ?_
  refine cw_seq ?_
  refine cw_seq ?_
  refine cw_region ?_
  first | refine lw_val rfl (run_move (v := .bool _) rfl) ?_
  refine lw_val rfl (run_not rfl) ?_
  refine lw_nil ?_
  refine cw_iff rfl (not_f (rfl)) ?_
  refine cw_skip ?_
  refine cw_seq ?_
  refine cw_seq ?_
  refine cw_region ?_
  first | refine lw_val rfl (run_move (v := .slice _ _ _) rfl) ?_
  refine lw_val rfl (run_lenS Tryd.underlying27 rfl) ?_
  refine lw_val rfl (run_gtr rfl rfl) ?_
  first | refine lw_val rfl (run_move (v := .bool _) rfl) ?_
  refine lw_split (t := _) (d := 28) rfl ?_ ?_
  · intro h27
    have g27 := of_decide_eq_true h27
    refine lw_off rfl rfl rfl h27 ?_
    refine lw_off rfl rfl rfl h27 ?_
    refine lw_off rfl rfl rfl h27 ?_
    first | refine lw_val rfl (run_pickT (v := .bool _) rfl h27 rfl) ?_
    first | refine lw_val rfl (run_move (v := .bool _) rfl) ?_
    refine lw_off rfl rfl rfl rfl ?_
    refine lw_off rfl rfl rfl rfl ?_
    refine lw_off rfl rfl rfl rfl ?_
    first | refine lw_val rfl (run_pickT (v := .bool _) rfl rfl rfl) ?_
    first | refine lw_val rfl (run_move (v := .bool _) rfl) ?_
    refine lw_off rfl rfl rfl rfl ?_
    refine lw_off rfl rfl rfl rfl ?_
    first | refine lw_val rfl (run_pickT (v := .bool _) rfl rfl rfl) ?_
    refine lw_nil ?_
    refine cw_ift rfl rfl ?_
    refine cw_seq ?_
    refine cw_region ?_
    first | refine lw_val rfl (run_move (v := .bool _) rfl) ?_
    first | refine lw_val rfl (run_assign (v := .bool _) rfl) ?_
    refine lw_nil ?_
    refine cw_ret ?_
    refine res1 (v := .bool _) rfl rfl ?_
    exact ⟨_, rfl, rfl, hs.nil⟩
  · intro h27
    have g27 := of_decide_eq_false h27
    refine lw_on rfl rfl h27 ?_
    first | refine lw_val rfl (run_move (v := .slice _ _ _) rfl) ?_
    refine lw_on rfl rfl h27 ?_
    refine lw_val rfl (run_lenS Tryd.underlying22 rfl) ?_
    refine lw_on rfl rfl h27 ?_
    refine lw_val rfl (run_gtr rfl rfl) ?_
    first | refine lw_val rfl (run_pickF (v := .bool _) rfl h27 rfl) ?_
    first | refine lw_val rfl (run_move (v := .bool _) rfl) ?_
    refine lw_split (t := _) (d := 33) rfl ?_ ?_
    · intro h31
      have g31 := of_decide_eq_true h31
      refine lw_off rfl rfl rfl h31 ?_
      refine lw_off rfl rfl rfl h31 ?_
      refine lw_off rfl rfl rfl h31 ?_
      first | refine lw_val rfl (run_pickT (v := .bool _) rfl h31 rfl) ?_
      first | refine lw_val rfl (run_move (v := .bool _) rfl) ?_
      refine lw_off rfl rfl rfl rfl ?_
      refine lw_off rfl rfl rfl rfl ?_
      first | refine lw_val rfl (run_pickT (v := .bool _) rfl rfl rfl) ?_
      refine lw_nil ?_
      refine cw_ift rfl rfl ?_
      refine cw_seq ?_
      refine cw_region ?_
      first | refine lw_val rfl (run_move (v := .bool _) rfl) ?_
      first | refine lw_val rfl (run_assign (v := .bool _) rfl) ?_
      refine lw_nil ?_
      refine cw_ret ?_
      refine res1 (v := .bool _) rfl rfl ?_
      exact ⟨_, rfl, rfl, hs.nil⟩
    · intro h31
      have g31 := of_decide_eq_false h31
      refine lw_on rfl rfl h31 ?_
      first | refine lw_val rfl (run_move (v := .slice _ _ _) rfl) ?_
      refine lw_on rfl rfl h31 ?_
      refine lw_val rfl (run_lenS Tryd.underlying27 rfl) ?_
      refine lw_on rfl rfl h31 ?_
      refine lw_val rfl (run_eqi rfl rfl) ?_
      first | refine lw_val rfl (run_pickF (v := .bool _) rfl h31 rfl) ?_
      first | refine lw_val rfl (run_move (v := .bool _) rfl) ?_
      refine lw_split (t := _) (d := 38) rfl ?_ ?_
      · intro h36
        have g36 := of_decide_eq_true h36
        refine lw_off rfl rfl rfl h36 ?_
        refine lw_off rfl rfl rfl h36 ?_
        first | refine lw_val rfl (run_pickT (v := .bool _) rfl h36 rfl) ?_
        refine lw_nil ?_
        refine cw_ift rfl rfl ?_
        refine cw_seq ?_
        refine cw_region ?_
        first | refine lw_val rfl (run_move (v := .bool _) rfl) ?_
        first | refine lw_val rfl (run_assign (v := .bool _) rfl) ?_
        refine lw_nil ?_
        refine cw_ret ?_
        refine res1 (v := .bool _) rfl rfl ?_
        exact ⟨_, rfl, rfl, hs.nil⟩
      · intro h36
        have g36 := of_decide_eq_false h36
        refine lw_on rfl rfl h36 ?_
        first | refine lw_val rfl (run_move (v := .bool _) rfl) ?_
        refine lw_on rfl rfl h36 ?_
        refine lw_val rfl (run_not rfl) ?_
        first | refine lw_val rfl (run_pickF (v := .bool _) rfl h36 rfl) ?_
        refine lw_nil ?_
        refine cw_iff rfl (not_f (rfl)) ?_
        refine cw_skip ?_
        refine cw_seq ?_
        refine cw_region ?_
        refine lw_call rfl en21 (new_sl hs) ?_
        clear hs
        rintro _ w ⟨p, rfl, hs⟩
        first | refine lw_val rfl (run_assign (v := .pointer (some _)) rfl) ?_ | refine lw_val rfl (run_assign (v := .pointer none) rfl) ?_
        refine lw_nil ?_
        refine cw_seq ?_
        refine cw_seq ?_
        refine cw_region ?_
        first | refine lw_val rfl (run_move (v := .pointer (some _)) rfl) ?_ | refine lw_val rfl (run_move (v := .pointer none) rfl) ?_
        refine lw_val rfl (run_eqpn Tryd.underlying24 rfl rfl) ?_
        first | refine lw_val rfl (run_move (v := .bool _) rfl) ?_
        refine lw_on rfl rfl rfl ?_
        first | refine lw_val rfl (run_move (v := .pointer (some _)) rfl) ?_ | refine lw_val rfl (run_move (v := .pointer none) rfl) ?_
        refine lw_on rfl rfl rfl ?_
        first | refine lw_val rfl (run_move (v := .slice _ _ _) rfl) ?_
        refine lw_on rfl rfl rfl ?_
        refine lw_call rfl en23 (put_sl hE hs (by decide) (by decide) (n := nCa) (b := l) (hb.rd _) (by omega) (sc_put l)) ?_
        clear hs
        rintro _ w ⟨rfl, hs⟩
        refine lw_on rfl rfl rfl ?_
        first | refine lw_val rfl (run_neerrn (ad := ad) rfl) ?_ | refine lw_val rfl (run_nenn rfl) ?_
        first | refine lw_val rfl (run_pickF (v := .bool _) rfl rfl rfl) ?_
        refine lw_nil ?_
        refine cw_iff rfl (not_f (decide_eq_true rfl)) ?_
        refine cw_skip ?_
        refine cw_seq ?_
        refine cw_region ?_
        first | refine lw_val rfl (run_move (v := .pointer (some _)) rfl) ?_ | refine lw_val rfl (run_move (v := .pointer none) rfl) ?_
        refine lw_call rfl en55 (start_sl hE hs (by simp [oneSt]) (by simp [oneSt]) (by simp [oneSt]) (sc_start l)) ?_
        clear hs
        rintro _ w ⟨rfl, hs⟩
        first | refine lw_val rfl (run_move (v := .tuple _) rfl) ?_
        first | refine lw_val rfl (run_extract (v := .int .i64 _) rfl rfl) ?_
        first | refine lw_val rfl (run_extract (v := errV ad _) rfl rfl) ?_ | refine lw_val rfl (run_extract (v := .nilIface) rfl rfl) ?_
        first | refine lw_val rfl (run_assign (v := .int .i64 _) rfl) ?_
        first | refine lw_val rfl (run_assign (v := errV ad _) rfl) ?_ | refine lw_val rfl (run_assign (v := .nilIface) rfl) ?_
        refine lw_nil ?_
        refine cw_seq ?_
        refine cw_seq ?_
        refine cw_region ?_
        first | refine lw_val rfl (run_move (v := errV ad _) rfl) ?_ | refine lw_val rfl (run_move (v := .nilIface) rfl) ?_
        first | refine lw_val rfl (run_neerrn (ad := ad) rfl) ?_ | refine lw_val rfl (run_nenn rfl) ?_
        refine lw_nil ?_
        refine cw_iff rfl (not_f (decide_eq_true rfl)) ?_
        refine cw_skip ?_
        refine cw_seq ?_
        refine cw_region ?_
        first | refine lw_val rfl (run_move (v := .pointer (some _)) rfl) ?_ | refine lw_val rfl (run_move (v := .pointer none) rfl) ?_
        first | refine lw_val rfl (run_move (v := .slice _ _ _) rfl) ?_
        refine lw_call rfl en22 (script_sl (outs := outs) hs (ho.rd _) (by simp; omega)) ?_
        clear hs
        rintro _ w ⟨rfl, hs⟩
        refine lw_nil ?_
        replace hs : Mem g w [StoreC p (scSt l outs 0)] := by simpa [scSt, badN] using hs
        refine cw_seq ?_
        refine cw_region ?_
        first | refine lw_val rfl (run_move (v := .pointer (some _)) rfl) ?_ | refine lw_val rfl (run_move (v := .pointer none) rfl) ?_
        refine lw_call rfl en61 (cloneS_sl (sc_small (by omega) _ _) (by simp only [scSt, List.drop_zero]; omega) hs) ?_
        clear hs
        rintro _ w ⟨p2, st2, rfl, hlike, hs⟩
        first | refine lw_val rfl (run_assign (v := .pointer (some _)) rfl) ?_ | refine lw_val rfl (run_assign (v := .pointer none) rfl) ?_
        refine lw_nil ?_
        refine cw_seq ?_
        refine cw_seq ?_
        refine cw_region ?_
        first | refine lw_val rfl (run_assign (v := .int .i64 _) rfl) ?_
        refine lw_nil ?_
        refine cw_block ?_
        refine cw_loop (X := Nat × St) [10, 64, 65, 66, 67, 68, 69, 70, 71, 72] (fun x => [(10, .int .i64 (x.1 : Nat))]) (fun x w => x.1 ≤ outs.length + 3 ∧ x.2.calls ≤ 2 + x.1 ∧ x.2.failed ≤ x.1 ∧ Mem g w [StoreC p2 x.2, StoreC p (scSt l outs 0)]) (fun x => outs.length + 3 - x.1) ((0, st2)) ?_ ?_ ?_
        · exact ⟨rfl, trivial⟩
        · exact ⟨Nat.zero_le _, by simp only; rw [hlike.calls]; simp [scSt], by simp only; rw [hlike.failed]; simp [scSt, badN], hs⟩
        clear hs
        rintro x ξ w hI
        obtain ⟨i, s⟩ := x
        obtain ⟨hi, hc1, hc2, hs⟩ := hI
        simp only at hi hc1 hc2 hs
        show cw _ _ _ _ _ _ (updL (mix _ ξ _) [(10, .int .i64 (i : Nat))]) w
        refine cw_seq ?_
        refine cw_seq ?_
        refine cw_region ?_
        first | refine lw_val rfl (run_move (v := .int .i64 _) rfl) ?_
        first | refine lw_val rfl (run_move (v := .slice _ _ _) rfl) ?_
        refine lw_val rfl (run_lenS Tryd.underlying22 rfl) ?_
        refine lw_val rfl (run_add64 rfl rfl rfl (inI (by omega) (by omega))) ?_
        refine lw_val rfl (run_lss rfl rfl) ?_
        refine lw_nil ?_
        refine cw_if rfl ?_ ?_
        · intro h68
          have g68 := of_decide_eq_true h68
          refine cw_skip ?_
          refine cw_seq ?_
          refine cw_block ?_
          refine cw_region ?_
          first | refine lw_val rfl (run_move (v := .pointer (some _)) rfl) ?_ | refine lw_val rfl (run_move (v := .pointer none) rfl) ?_
          refine lw_call rfl en23 (put_sl hE hs (by omega) (by omega) (n := nCz) (b := []) Rd.nil (by decide) rfl) ?_
          clear hs
          rintro _ w ⟨rfl, hs⟩
          refine lw_nil ?_
          refine cw_region ?_
          first | refine lw_val rfl (run_move (v := .int .i64 _) rfl) ?_
          refine lw_val rfl (run_add64 rfl rfl rfl (inI (by omega) (by omega))) ?_
          first | refine lw_val rfl (run_assign (v := .int .i64 _) rfl) ?_
          refine lw_nil ?_
          have hpc := put1_cnt nCz [] s
          exact ⟨(i + 1, (s.run (St.put1 nCz [])).2), by simp only; omega, ⟨by simp only; omega, by simp only; omega, by simp only; omega, hs⟩, ⟨rfl, trivial⟩, by repeat (first | exact Out.mix _ _ _ | refine Out.updo rfl ?_ | refine Out.upd rfl ?_ | refine Out.mixIn rfl ?_)⟩
        · intro h68
          have g68 := of_decide_eq_false h68
          refine cw_exit rfl ?_
          refine cw_seq ?_
          refine cw_region ?_
          first | refine lw_val rfl (run_move (v := .pointer (some _)) rfl) ?_ | refine lw_val rfl (run_move (v := .pointer none) rfl) ?_
          first | refine lw_val rfl (run_move (v := .int .i64 _) rfl) ?_
          refine lw_call rfl en47 (abort_sl hE hs (by omega) (by omega) (id := 1) rfl) ?_
          clear hs
          rintro _ w ⟨rfl, hs⟩
          refine lw_nil ?_
          replace hs := hs.tail
          refine cw_seq ?_
          refine cw_region ?_
          first | refine lw_val rfl (run_move (v := .pointer (some _)) rfl) ?_ | refine lw_val rfl (run_move (v := .pointer none) rfl) ?_
          refine lw_call rfl en24 (bytes_sl hs (sc_small (by omega) _ _) nCa (o := some l) (by simp [scSt, aget])) ?_
          clear hs
          rintro _ w ⟨a78, c78, rfl, hs⟩
          first | refine lw_val rfl (run_move (v := .tuple _) rfl) ?_
          first | refine lw_val rfl (run_extract (v := .slice _ _ _) rfl rfl) ?_
          first | refine lw_val rfl (run_extract (v := .bool _) rfl rfl) ?_
          first | refine lw_val rfl (run_assign (v := .slice _ _ _) rfl) ?_
          first | refine lw_val rfl (run_assign (v := .bool _) rfl) ?_
          refine lw_nil ?_
          refine cw_seq ?_
          refine cw_seq ?_
          refine cw_region ?_
          first | refine lw_val rfl (run_move (v := .bool _) rfl) ?_
          refine lw_val rfl (run_not rfl) ?_
          first | refine lw_val rfl (run_move (v := .bool _) rfl) ?_
          refine lw_on rfl rfl (not_f (rfl)) ?_
          first | refine lw_val rfl (run_move (v := .slice _ _ _) rfl) ?_
          refine lw_on rfl rfl (not_f (rfl)) ?_
          refine lw_val rfl (run_lenS Tryd.underlying27 rfl) ?_
          refine lw_on rfl rfl (not_f (rfl)) ?_
          first | refine lw_val rfl (run_move (v := .slice _ _ _) rfl) ?_
          refine lw_on rfl rfl (not_f (rfl)) ?_
          refine lw_val rfl (run_lenS Tryd.underlying27 rfl) ?_
          refine lw_on rfl rfl (not_f (rfl)) ?_
          refine lw_val rfl (run_nei rfl rfl) ?_
          first | refine lw_val rfl (run_pickF (v := .bool _) rfl (not_f (rfl)) rfl) ?_
          refine lw_nil ?_
          refine cw_iff rfl (not_f (decide_eq_true rfl)) ?_
          refine cw_skip ?_
          refine cw_seq ?_
          obtain ⟨b1, o1, rfl, _⟩ := hs.ownCells 0 rfl (by rw [bytesL_len]; show 0 < l.length; omega)
          obtain ⟨u, hu⟩ : ∃ u, l[0]? = some u := ⟨l[0]'(by omega), List.getElem?_eq_getElem _⟩
          refine cw_region ?_
          first | refine lw_val rfl (run_move (v := .slice _ _ _) rfl) ?_
          refine lw_val rfl (run_indexAddr Tryd.underlying27 sz5 rfl rfl (i := 0) rfl (by show 0 < l.length; omega) rfl) ?_
          refine lw_val rfl (run_load Tryd.underlying5 rfl rfl (hs.ownAt 0 rfl (bytesL_at hu))) ?_
          refine lw_val rfl (run_bits (by simp) rfl rfl rfl) ?_
          refine lw_val rfl (run_indexAddr Tryd.underlying27 sz5 rfl rfl (i := 0) rfl (by show 0 < l.length; omega) rfl) ?_
          refine lw_storeOwn (j := 0) (v := .int .u8 _) hs 0 rfl sz5 rfl rfl (by rw [bytesL_len]; show 0 < l.length; omega) rfl rfl ?_
          clear hs
          intro w hs
          simp only [List.set_cons_zero] at hs
          refine lw_nil ?_
          refine cw_seq ?_
          refine cw_region ?_
          first | refine lw_val rfl (run_move (v := .pointer (some _)) rfl) ?_ | refine lw_val rfl (run_move (v := .pointer none) rfl) ?_
          refine lw_call rfl en24 (bytes_sl (hs.pick 1 rfl) (sc_small (by omega) _ _) nCa (o := some l) (by simp [scSt, aget])) ?_
          clear hs
          rintro _ w ⟨a97, c97, rfl, hs⟩
          first | refine lw_val rfl (run_move (v := .tuple _) rfl) ?_
          first | refine lw_val rfl (run_extract (v := .slice _ _ _) rfl rfl) ?_
          first | refine lw_val rfl (run_extract (v := .bool _) rfl rfl) ?_
          first | refine lw_val rfl (run_assign (v := .slice _ _ _) rfl) ?_
          first | refine lw_val rfl (run_assign (v := .bool _) rfl) ?_
          refine lw_nil ?_
          refine cw_seq ?_
          refine cw_region ?_
          first | refine lw_val rfl (run_move (v := .pointer (some _)) rfl) ?_ | refine lw_val rfl (run_move (v := .pointer none) rfl) ?_
          refine lw_call rfl en24 (bytes_sl (hs.pick 1 rfl) (sc_small (by omega) _ _) nCz (o := none) (by simp [scSt, aget, nCaz])) ?_
          clear hs
          rintro _ w ⟨a102, c102, rfl, hs⟩
          first | refine lw_val rfl (run_move (v := .tuple _) rfl) ?_
          first | refine lw_val rfl (run_extract (v := .slice _ _ _) rfl rfl) ?_
          first | refine lw_val rfl (run_extract (v := .bool _) rfl rfl) ?_
          first | refine lw_val rfl (run_assign (v := .slice _ _ _) rfl) ?_
          first | refine lw_val rfl (run_assign (v := .bool _) rfl) ?_
          refine lw_nil ?_
          replace hs : Mem g w [own (.slice a97 l.length c97) (bytesL l), StoreC p (scSt l outs 0)] := hs.arr [2, 1] 4 (by decide)
          refine cw_seq ?_
          refine cw_region ?_
          first | refine lw_val rfl (run_assign (v := .int .i64 _) rfl) ?_
          refine lw_nil ?_
          refine cw_seq ?_
          refine cw_seq ?_
          refine cw_region ?_
          first | refine lw_val rfl (run_assign (v := .int .i64 _) rfl) ?_
          refine lw_nil ?_
          refine cw_block ?_
          refine cw_loop (X := Nat) [4, 17, 18, 19, 20, 21, 105, 106, 107, 108, 109, 110, 111, 112, 113, 114, 115, 116, 117, 118, 119, 120, 121, 122, 123, 124, 125, 126, 127, 128, 129, 130, 131, 132, 133, 134, 135] (fun i => [(17, .int .i64 (badN (outs.take i) : Nat)), (18, .int .i64 (i : Nat))]) (fun i w => i ≤ outs.length ∧ Mem g w [own (.slice a97 l.length c97) (bytesL l), StoreC p (scSt l outs i)]) (fun i => outs.length - i) (0) ?_ ?_ ?_
          · exact ⟨rfl, rfl, trivial⟩
          · exact ⟨Nat.zero_le _, hs⟩
          clear hs
          rintro x ξ w hI
          obtain ⟨hi, hs⟩ := hI
          refine cw_seq ?_
          refine cw_seq ?_
          refine cw_region ?_
          first | refine lw_val rfl (run_move (v := .int .i64 _) rfl) ?_
          first | refine lw_val rfl (run_move (v := .slice _ _ _) rfl) ?_
          refine lw_val rfl (run_lenS Tryd.underlying22 rfl) ?_
          refine lw_val rfl (run_lss rfl rfl) ?_
          refine lw_nil ?_
          refine cw_if rfl ?_ ?_
          · intro h108
            have g108 := of_decide_eq_true h108
            obtain ⟨y, hy⟩ : ∃ y, outs[x]? = some y := ⟨outs[x]'(by omega), List.getElem?_eq_getElem _⟩
            obtain ⟨b0, o0, rfl, _⟩ := (ho.rd _).cells' hs (by rw [intsL_len]; omega)
            have hbs := badN_succ hy
            have hbl := badN_le outs x
            obtain ⟨y1, y2, y3, hk, hy3⟩ : ∃ y1 y2 y3, (scSt l outs x).headR nCa = (y1, y2, y3, scSt l outs (x + 1)) ∧ y3 = (if y = 1 ∨ y = 2 then 111 else 0) := by rw [sc_head hy]; split <;> exact ⟨_, _, _, rfl, rfl⟩
            refine cw_skip ?_
            refine cw_seq ?_
            refine cw_block ?_
            refine cw_seq ?_
            refine cw_region ?_
            first | refine lw_val rfl (run_move (v := .pointer (some _)) rfl) ?_ | refine lw_val rfl (run_move (v := .pointer none) rfl) ?_
            refine lw_call rfl en40 (head_sl hE (sc_small (by omega) _ _) (hs.pick 1 rfl) (by simp only [scSt]; omega) (by simp only [scSt]; omega) nCa hk) ?_
            clear hs
            rintro _ w ⟨rfl, hs⟩
            first | refine lw_val rfl (run_move (v := .tuple _) rfl) ?_
            first | refine lw_val rfl (run_extract (v := .int .i64 _) rfl rfl) ?_
            first | refine lw_val rfl (run_extract (v := .int .u32 _) rfl rfl) ?_
            first | refine lw_val rfl (run_extract (v := errV ad _) rfl rfl) ?_ | refine lw_val rfl (run_extract (v := .nilIface) rfl rfl) ?_
            first | refine lw_val rfl (run_assign (v := .int .i64 _) rfl) ?_
            first | refine lw_val rfl (run_assign (v := .int .u32 _) rfl) ?_
            first | refine lw_val rfl (run_assign (v := errV ad _) rfl) ?_ | refine lw_val rfl (run_assign (v := .nilIface) rfl) ?_
            refine lw_nil ?_
            refine cw_seq ?_
            refine cw_region ?_
            first | refine lw_val rfl (run_move (v := .slice _ _ _) rfl) ?_
            first | refine lw_val rfl (run_move (v := .int .i64 _) rfl) ?_
            refine lw_val rfl (run_indexAddr Tryd.underlying22 sz3 rfl rfl rfl (by omega) rfl) ?_
            refine lw_val rfl (run_load Tryd.underlying3 rfl rfl ((ho.rd _).cellAt hs (intsL_at hy))) ?_
            refine lw_val rfl (run_eqi rfl rfl) ?_
            first | refine lw_val rfl (run_move (v := .bool _) rfl) ?_
            refine lw_split (t := _) (d := 122) rfl ?_ ?_
            · intro h121
              have g121 := of_decide_eq_true h121
              obtain rfl : 111 = y3 := by rw [hy3, if_pos (.inl g121)]
              refine lw_off rfl rfl rfl h121 ?_
              refine lw_off rfl rfl rfl h121 ?_
              refine lw_off rfl rfl rfl h121 ?_
              refine lw_off rfl rfl rfl h121 ?_
              refine lw_off rfl rfl rfl h121 ?_
              first | refine lw_val rfl (run_pickT (v := .bool _) rfl h121 rfl) ?_
              refine lw_nil ?_
              refine cw_ift rfl rfl ?_
              refine cw_seq ?_
              refine cw_region ?_
              first | refine lw_val rfl (run_move (v := .int .i64 _) rfl) ?_
              refine lw_val rfl (run_add64 rfl rfl rfl (inI (by omega) (by omega))) ?_
              first | refine lw_val rfl (run_assign (v := .int .i64 _) rfl) ?_
              refine lw_nil ?_
              refine cw_seq ?_
              refine cw_region ?_
              first | refine lw_val rfl (run_move (v := errV ad _) rfl) ?_ | refine lw_val rfl (run_move (v := .nilIface) rfl) ?_
              refine lw_call rfl en25 (is_sl hA hs (d := 111) (.inr (by decide)) _) ?_
              clear hs
              rintro _ w ⟨rfl, hs⟩
              refine lw_val rfl (run_not rfl) ?_
              refine lw_nil ?_
              refine cw_iff rfl (not_f (decide_eq_true rfl)) ?_
              refine cw_skip ?_
              refine cw_region ?_
              first | refine lw_val rfl (run_move (v := .int .i64 _) rfl) ?_
              refine lw_val rfl (run_add64 rfl rfl rfl (inI (by omega) (by omega))) ?_
              first | refine lw_val rfl (run_assign (v := .int .i64 _) rfl) ?_
              refine lw_nil ?_
              exact ⟨x + 1, by omega, ⟨by omega, hs.arr [1, 0] 2 (by decide)⟩, ⟨show Value.int .i64 ((badN (outs.take x) : Nat) + 1 : Int) = Value.int .i64 ((badN (outs.take (x + 1)) : Nat) : Int) from by rw [hbs, if_pos (.inl g121)]; rfl, rfl, trivial⟩, by repeat (first | exact Out.mix _ _ _ | refine Out.updo rfl ?_ | refine Out.upd rfl ?_ | refine Out.mixIn rfl ?_)⟩
            · intro h121
              have g121 := of_decide_eq_false h121
              refine lw_on rfl rfl h121 ?_
              first | refine lw_val rfl (run_move (v := .slice _ _ _) rfl) ?_
              refine lw_on rfl rfl h121 ?_
              first | refine lw_val rfl (run_move (v := .int .i64 _) rfl) ?_
              refine lw_on rfl rfl h121 ?_
              refine lw_val rfl (run_indexAddr Tryd.underlying22 sz3 rfl rfl rfl (by omega) rfl) ?_
              refine lw_on rfl rfl h121 ?_
              refine lw_val rfl (run_load Tryd.underlying3 rfl rfl ((ho.rd _).cellAt hs (intsL_at hy))) ?_
              refine lw_on rfl rfl h121 ?_
              refine lw_val rfl (run_eqi rfl rfl) ?_
              first | refine lw_val rfl (run_pickF (v := .bool _) rfl h121 rfl) ?_
              refine lw_nil ?_
              refine cw_if rfl ?_ ?_
              · intro h127
                have g127 := of_decide_eq_true h127
                obtain rfl : 111 = y3 := by rw [hy3, if_pos (.inr g127)]
                refine cw_seq ?_
                refine cw_region ?_
                first | refine lw_val rfl (run_move (v := .int .i64 _) rfl) ?_
                refine lw_val rfl (run_add64 rfl rfl rfl (inI (by omega) (by omega))) ?_
                first | refine lw_val rfl (run_assign (v := .int .i64 _) rfl) ?_
                refine lw_nil ?_
                refine cw_seq ?_
                refine cw_region ?_
                first | refine lw_val rfl (run_move (v := errV ad _) rfl) ?_ | refine lw_val rfl (run_move (v := .nilIface) rfl) ?_
                refine lw_call rfl en25 (is_sl hA hs (d := 111) (.inr (by decide)) _) ?_
                clear hs
                rintro _ w ⟨rfl, hs⟩
                refine lw_val rfl (run_not rfl) ?_
                refine lw_nil ?_
                refine cw_iff rfl (not_f (decide_eq_true rfl)) ?_
                refine cw_skip ?_
                refine cw_region ?_
                first | refine lw_val rfl (run_move (v := .int .i64 _) rfl) ?_
                refine lw_val rfl (run_add64 rfl rfl rfl (inI (by omega) (by omega))) ?_
                first | refine lw_val rfl (run_assign (v := .int .i64 _) rfl) ?_
                refine lw_nil ?_
                exact ⟨x + 1, by omega, ⟨by omega, hs.arr [1, 0] 2 (by decide)⟩, ⟨show Value.int .i64 ((badN (outs.take x) : Nat) + 1 : Int) = Value.int .i64 ((badN (outs.take (x + 1)) : Nat) : Int) from by rw [hbs, if_pos (.inr g127)]; rfl, rfl, trivial⟩, by repeat (first | exact Out.mix _ _ _ | refine Out.updo rfl ?_ | refine Out.upd rfl ?_ | refine Out.mixIn rfl ?_)⟩
              · intro h127
                have g127 := of_decide_eq_false h127
                obtain rfl : 0 = y3 := by rw [hy3, if_neg (by omega)]
                refine cw_seq ?_
                refine cw_region ?_
                first | refine lw_val rfl (run_move (v := errV ad _) rfl) ?_ | refine lw_val rfl (run_move (v := .nilIface) rfl) ?_
                first | refine lw_val rfl (run_neerrn (ad := ad) rfl) ?_ | refine lw_val rfl (run_nenn rfl) ?_
                refine lw_nil ?_
                refine cw_iff rfl (not_f (decide_eq_true rfl)) ?_
                refine cw_skip ?_
                refine cw_region ?_
                first | refine lw_val rfl (run_move (v := .int .i64 _) rfl) ?_
                refine lw_val rfl (run_add64 rfl rfl rfl (inI (by omega) (by omega))) ?_
                first | refine lw_val rfl (run_assign (v := .int .i64 _) rfl) ?_
                refine lw_nil ?_
                exact ⟨x + 1, by omega, ⟨by omega, hs.arr [1, 0] 2 (by decide)⟩, ⟨show Value.int .i64 ((badN (outs.take x) : Nat) : Int) = Value.int .i64 ((badN (outs.take (x + 1)) : Nat) : Int) from by rw [hbs, if_neg (by omega)]; rfl, rfl, trivial⟩, by repeat (first | exact Out.mix _ _ _ | refine Out.updo rfl ?_ | refine Out.upd rfl ?_ | refine Out.mixIn rfl ?_)⟩
          · intro h108
            have g108 := of_decide_eq_false h108
            refine cw_exit rfl ?_
            refine cw_seq ?_
            refine cw_region ?_
            first | refine lw_val rfl (run_move (v := .slice _ _ _) rfl) ?_
            first | refine lw_val rfl (run_move (v := .slice _ _ _) rfl) ?_
            refine lw_call rfl en38 (sameB_sl (la := l) (lb := l) hs (Rd.own 0 rfl) (hb.rd _) rfl rfl (by omega)) ?_
            clear hs
            rintro _ w ⟨rfl, hs⟩
            first | refine lw_val rfl (run_move (v := .bool _) rfl) ?_
            refine lw_on rfl rfl (decide_eq_true rfl) ?_
            first | refine lw_val rfl (run_move (v := .bool _) rfl) ?_
            refine lw_on rfl rfl (decide_eq_true rfl) ?_
            refine lw_val rfl (run_not rfl) ?_
            first | refine lw_val rfl (run_pickT (v := .bool _) rfl (decide_eq_true rfl) rfl) ?_
            first | refine lw_val rfl (run_move (v := .bool _) rfl) ?_
            refine lw_on rfl rfl (not_t (rfl)) ?_
            first | refine lw_val rfl (run_move (v := .pointer (some _)) rfl) ?_ | refine lw_val rfl (run_move (v := .pointer none) rfl) ?_
            refine lw_on rfl rfl (not_t (rfl)) ?_
            refine lw_call rfl en54 (open_sl (hs.pick 1 rfl) (fun x hx => by simp [scSt, keysOf] at hx; subst hx; exact inI (by decide) (by decide)) (by simp [scSt])) ?_
            clear hs
            rintro _ w ⟨a145, c145, rfl, hs⟩
            rw [sc_open] at hs ⊢
            refine lw_on rfl rfl (not_t (rfl)) ?_
            first | refine lw_val rfl (run_move (v := .int .i64 _) rfl) ?_
            refine lw_on rfl rfl (not_t (rfl)) ?_
            refine lw_buildSlice hs rfl ((intsL [1])) Tryd.underlying22 zs3 rfl (cells_one (intsL_one _)) rfl rfl rfl ?_
            clear hs
            intro b147 w hs
            try simp only [List.set_cons_succ, List.set_cons_zero] at hs
            refine lw_on rfl rfl (not_t (rfl)) ?_
            refine lw_call rfl en59 (sameI_sl (la := [1]) (lb := [1]) hs (Rd.own 1 rfl) (Rd.cells (n := 1) (cs := intsL [1]) 0 rfl rfl) rfl rfl (by decide)) ?_
            clear hs
            rintro _ w ⟨rfl, hs⟩
            first | refine lw_val rfl (run_pickT (v := .bool _) rfl (not_t (rfl)) rfl) ?_
            first | refine lw_val rfl (run_move (v := .bool _) rfl) ?_
            refine lw_on rfl rfl (decide_eq_true rfl) ?_
            first | refine lw_val rfl (run_move (v := .pointer (some _)) rfl) ?_ | refine lw_val rfl (run_move (v := .pointer none) rfl) ?_
            refine lw_on rfl rfl (decide_eq_true rfl) ?_
            refine lw_call rfl en27 (failed_sl (hs.pick 2 rfl)) ?_
            clear hs
            rintro _ w ⟨rfl, hs⟩
            refine lw_on rfl rfl (decide_eq_true rfl) ?_
            first | refine lw_val rfl (run_move (v := .int .i64 _) rfl) ?_
            refine lw_on rfl rfl (decide_eq_true rfl) ?_
            refine lw_val rfl (run_eqi rfl rfl) ?_
            first | refine lw_val rfl (run_pickT (v := .bool _) rfl (decide_eq_true rfl) rfl) ?_
            first | refine lw_val rfl (run_assign (v := .bool _) rfl) ?_
            refine lw_nil ?_
            refine cw_ret ?_
            refine res1 (v := .bool _) rfl rfl ?_
            exact ⟨_, rfl, ret_b (decide_eq_true rfl), hs.nil⟩
end Go.Proofs.YtjiigajekminaaaDoor
