/- CallReads: the walk. -/
import Derived.Test.YtjiigajekminaaaDoorLi
import Derived.Test.YtjiigajekminaaaDoorCT
import Derived.Test.YtjiigajekminaaaDoorOp
import Derived.Test.YtjiigajekminaaaDoorAg
namespace Go.Proofs.YtjiigajekminaaaDoor
set_option linter.all false
open Go.RowKit
attribute [local irreducible] errV
variable {g w : World} {L M : List HP} {ad : Nat → Addr} {p q : Nat} {st : St}

/-- What is asked of the store alone changes its counts alone. -/
theorem again_begin {τ : Type} {step : St × τ → Nat × St × τ} (hst : ∀ s, (step s).2.1 = s.1.begin) {t : Nat} {st st2 : St} {d d2 : τ} {lost : Bool} {x n : Nat} (hk : againR step t (st, d) = (lost, x, n, st2, d2)) :
    st2.calls ≤ st.calls + t ∧ st2.failed ≤ st.failed + t ∧ n ≤ t ∧ st2.objs = st.objs ∧ st2.ups = st.ups := by
  have h1 := again_add (step := step) (fun s => s.1.calls) (fun s => by rw [hst]; exact Nat.le_of_eq (begin_counts s.1).1) t (st, d)
  have h2 := again_add (step := step) (fun s => s.1.failed) (fun s => by rw [hst]; exact (begin_counts s.1).2) t (st, d)
  have h3 := again_n (step := step) t (st, d)
  have h4 : ∀ (t : Nat) (s : St × τ), (againR step t s).2.2.2.1.objs = s.1.objs ∧ (againR step t s).2.2.2.1.ups = s.1.ups := by
    intro t
    induction t with
    | zero => intro s; exact ⟨rfl, rfl⟩
    | succ t ih =>
      intro s
      simp only [againR]
      split
      · have := ih (step s).2
        simp only
        rw [this.1, this.2, hst]
        exact ⟨rfl, rfl⟩
      · simp only
        rw [hst]
        exact ⟨rfl, rfl⟩
  have h4 := h4 t (st, d)
  rw [hk] at h1 h2 h3 h4
  exact ⟨h1, h2, h3, h4.1, h4.2⟩
def nA : ByteArray := ⟨#[97]⟩
def nE : ByteArray := ⟨#[]⟩
theorem nA_valid : validB nA.data.toList = true := by decide +kernel
def One (b : List UInt8) (st : St) : Prop := st.objs = [(nA, b)] ∧ st.ups = []
theorem One.small {b : List UInt8} (h : One b st) (hb : b.length ≤ 1000) : st.small := ⟨fun n l hm => by rw [h.1] at hm; simp at hm; rw [hm.2]; omega, fun i u hm => by rw [h.2] at hm; simp at hm⟩
theorem One.named {b : List UInt8} (h : One b st) : st.named := ⟨fun x hx => by rw [h.1] at hx; simp [keysOf] at hx; rw [hx]; decide, by rw [h.1]; simp⟩
theorem One.sorted {b : List UInt8} (h : One b st) : sortT (keysOf st.objs) = [nA] := by rw [h.1]; simp [keysOf, sortT, sortB, bytesOf]
theorem get_res {b : List UInt8} {o m : Nat} (hom : o + m ≤ b.length) (h : One b st) {lost : Bool} {x n : Nat} {st2 : St} {out : List UInt8} (hk : againR (getStep nA (o : Nat) (m : Nat)) 3 (st, []) = (lost, x, n, st2, out)) :
    (x = 111 ∧ out = []) ∨ (x = 0 ∧ out = (b.take (o + m)).drop o) := by
  have hg : ∀ s : St, One b s → s.getR nA (o : Nat) (m : Nat) = if s.next = 1 ∨ s.next = 2 then ([], 111, s.begin) else ((b.take (o + m)).drop o, 0, s.begin) := fun s hs => by
    have h0 : s.begin.get1 nA (o : Nat) (m : Nat) = (0, (b.take (o + m)).drop o) := by
      have : s.begin.objs = [(nA, b)] := hs.1
      simp only [St.get1, this, aget, if_true]
      rw [if_neg (by omega)]
      simp
    unfold St.getR
    rw [h0]
  have := again_ind (step := getStep nA (o : Nat) (m : Nat)) (fun s => One b s.1 ∧ s.2 = []) (fun s hs h1 => by
    simp only [getStep, hg _ hs.1] at h1 ⊢
    split
    · exact ⟨hs.1, rfl⟩
    · rename_i hn; rw [if_neg hn] at h1; cases h1) 3 (st, []) ⟨h, rfl⟩
  rw [hk] at this
  rcases this with ⟨h, _, h2⟩ | ⟨s, hs, h1, h2, h3, _⟩
  · exact .inl ⟨h, h2⟩
  · have e2 : out = (getStep nA (o : Nat) (m : Nat) s).2.2 := congrArg Prod.snd h3
    simp only at h2
    rw [h2, e2]
    simp only [getStep, hg _ hs.1] at h1 ⊢
    split
    · rename_i hn; rw [if_pos hn] at h1; exact absurd rfl h1
    · exact .inr ⟨rfl, rfl⟩
theorem list_res {b : List UInt8} (h : One b st) {lost : Bool} {x n : Nat} {st2 : St} {out : List ByteArray} (hk : againR (listStep nE) 3 (st, []) = (lost, x, n, st2, out)) : x = 111 ∨ (x = 0 ∧ out = [nA]) := by
  have hg : ∀ s : St, One b s → s.listR nE = if s.next = 1 ∨ s.next = 2 then ([], 111, s.begin) else ([nA], 0, s.begin) := fun s hs => by
    have h0 : s.list1 nE = [nA] := by unfold St.list1; rw [hs.sorted]; decide +kernel
    unfold St.listR
    rw [h0]
  have := again_ind (step := listStep nE) (fun s => One b s.1) (fun s hs h1 => by simp only [listStep, listR_st]; exact hs) 3 (st, []) h
  rw [hk] at this
  rcases this with ⟨h, _⟩ | ⟨s, hs, h1, h2, h3, _⟩
  · exact .inl h
  · have e2 : out = (listStep nE s).2.2 := congrArg Prod.snd h3
    simp only at h2
    rw [h2, e2]
    simp only [listStep, hg _ hs] at h1 ⊢
    split
    · rename_i hn; rw [if_pos hn] at h1; exact absurd rfl h1
    · exact .inr ⟨rfl, rfl⟩
theorem head_resA {b : List UInt8} (h : One b st) {lost : Bool} {x n : Nat} {st2 : St} {i j : Int} (hk : againR (headStep nA) 3 (st, 0, 0) = (lost, x, n, st2, i, j)) : x = 111 ∨ (x = 0 ∧ i = (b.length : Nat)) := by
  have hg : ∀ s : St, One b s → s.headR nA = if s.next = 1 ∨ s.next = 2 then (0, 0, 111, s.begin) else (((b.length : Nat) : Int), ((crcMore 0 b : Nat) : Int), 0, s.begin) := fun s hs => by
    have h0 : s.begin.head1 nA = (0, ((b.length : Nat) : Int), ((crcMore 0 b : Nat) : Int)) := by
      have : s.begin.objs = [(nA, b)] := hs.1
      simp [St.head1, this, aget]
    unfold St.headR
    split
    · rfl
    · rw [h0]; simp
  have := again_ind (step := headStep nA) (fun s => One b s.1) (fun s hs h1 => by simp only [headStep, headR_counts]; exact hs) 3 (st, 0, 0) h
  rw [hk] at this
  rcases this with ⟨h, _⟩ | ⟨s, hs, h1, h2, h3, _⟩
  · exact .inl h
  · have e2 : i = (headStep nA s).2.2.1 := congrArg (fun r => r.2.1) h3
    simp only at h2
    rw [h2, e2]
    simp only [headStep, hg _ hs] at h1 ⊢
    split
    · rename_i hn; rw [if_pos hn] at h1; exact absurd rfl h1
    · exact .inr ⟨rfl, rfl⟩
theorem put_nA (b : List UInt8) : againR (fun s => s.run (St.put1 nA b)) 3 St.empty = (false, 0, 1, oneSt nA b 1) := by simp [againR, put_first nA_valid]
structure CRI (b : List UInt8) (i : Nat) (st : St) (a : Nat) : Prop where
  one : One b st
  calls : st.calls ≤ 9 * i + 1
  failed : st.failed ≤ 9 * i + 1
  asked : a ≤ 9 * i + 1
set_option maxHeartbeats 2000000 in
set_option maxRecDepth 10000 in
theorem callReads_sl (hA : ErrA ad g) (hs : Mem g w []) {a b : Option Addr} {n m c d : Nat} {l : List UInt8} {outs : List Int} {off cnt : Int} (hb : Came g (.slice a n c) (bytesL l)) (ho : Came g (.slice b m d) (intsL outs)) (hn : n = l.length) (hm : m = outs.length) :
    Calls Tryd.prog 17 #[.slice a n c, .slice b m d, .int .i64 off, .int .i64 cnt] w (Ret fun v w' => v = .bool true ∧ Mem g w' []) := by
  subst hn hm
  have hE := hA.core
  refine calls_cw Tryd.func17 rfl rfl ?_
  skip
  refine cw_seq ?_
  refine cw_region ?_
  first | refine lw_val rfl (run_assign (v := .bool _) rfl) ?_
  refine lw_nil ?_
  refine cw_seq ?_
  refine cw_region ?_
  refine lw_call rfl en33 (first12_sl hE hs) ?_
  clear hs
  rintro _ w ⟨rfl, hs⟩
  first | refine lw_val rfl (run_assign (v := .bool _) rfl) ?_
  refine lw_nil ?_
  refine cw_seq ?_
  refine cw_seq ?_
  refine cw_region ?_
  first | refine lw_val rfl (run_move (v := .bool _) rfl) ?_
  refine lw_val rfl (run_not rfl) ?_
  refine lw_nil ?_
  refine cw_iff rfl (not_f (rfl)) ?_
  refine cw_skip ?_
  refine cw_seq ?_
  refine cw_seq ?_
  refine cw_region ?_
  first | refine lw_val rfl (run_move (v := .slice _ _ _) rfl) ?_
  refine lw_val rfl (run_lenS Tryd.underlying27 rfl) ?_
  refine lw_val rfl (run_gtr rfl rfl) ?_
  first | refine lw_val rfl (run_move (v := .bool _) rfl) ?_
  refine lw_split (t := _) (d := 27) rfl ?_ ?_
  · intro h26
    have g26 := of_decide_eq_true h26
    refine lw_off rfl rfl rfl h26 ?_
    refine lw_off rfl rfl rfl h26 ?_
    refine lw_off rfl rfl rfl h26 ?_
    first | refine lw_val rfl (run_pickT (v := .bool _) rfl h26 rfl) ?_
    first | refine lw_val rfl (run_move (v := .bool _) rfl) ?_
    refine lw_off rfl rfl rfl rfl ?_
    refine lw_off rfl rfl rfl rfl ?_
    first | refine lw_val rfl (run_pickT (v := .bool _) rfl rfl rfl) ?_
    refine lw_nil ?_
    refine cw_ift rfl rfl ?_
    refine cw_seq ?_
    refine cw_region ?_
    first | refine lw_val rfl (run_move (v := .bool _) rfl) ?_
    first | refine lw_val rfl (run_assign (v := .bool _) rfl) ?_
    refine lw_nil ?_
    refine cw_ret ?_
    refine res1 (v := .bool _) rfl rfl ?_
    exact ⟨_, rfl, rfl, hs.nil⟩
  · intro h26
    have g26 := of_decide_eq_false h26
    refine lw_on rfl rfl h26 ?_
    first | refine lw_val rfl (run_move (v := .slice _ _ _) rfl) ?_
    refine lw_on rfl rfl h26 ?_
    refine lw_val rfl (run_lenS Tryd.underlying22 rfl) ?_
    refine lw_on rfl rfl h26 ?_
    refine lw_val rfl (run_gtr rfl rfl) ?_
    first | refine lw_val rfl (run_pickF (v := .bool _) rfl h26 rfl) ?_
    first | refine lw_val rfl (run_move (v := .bool _) rfl) ?_
    refine lw_split (t := _) (d := 32) rfl ?_ ?_
    · intro h30
      have g30 := of_decide_eq_true h30
      refine lw_off rfl rfl rfl h30 ?_
      refine lw_off rfl rfl rfl h30 ?_
      first | refine lw_val rfl (run_pickT (v := .bool _) rfl h30 rfl) ?_
      refine lw_nil ?_
      refine cw_ift rfl rfl ?_
      refine cw_seq ?_
      refine cw_region ?_
      first | refine lw_val rfl (run_move (v := .bool _) rfl) ?_
      first | refine lw_val rfl (run_assign (v := .bool _) rfl) ?_
      refine lw_nil ?_
      refine cw_ret ?_
      refine res1 (v := .bool _) rfl rfl ?_
      exact ⟨_, rfl, rfl, hs.nil⟩
    · intro h30
      have g30 := of_decide_eq_false h30
      have hop := ((hb.rd []).seq hs).open
      refine lw_on rfl rfl h30 ?_
      first | refine lw_val rfl (run_move (v := .bool _) rfl) ?_
      refine lw_on rfl rfl h30 ?_
      refine lw_val rfl (run_not rfl) ?_
      first | refine lw_val rfl (run_pickF (v := .bool _) rfl h30 rfl) ?_
      refine lw_nil ?_
      refine cw_iff rfl (not_f (rfl)) ?_
      refine cw_skip ?_
      refine cw_seq ?_
      refine cw_region ?_
      refine lw_call rfl en21 (new_sl hs) ?_
      clear hs
      rintro _ w ⟨p, rfl, hs⟩
      first | refine lw_val rfl (run_assign (v := .pointer (some _)) rfl) ?_ | refine lw_val rfl (run_assign (v := .pointer none) rfl) ?_
      refine lw_nil ?_
      refine cw_seq ?_
      refine cw_region ?_
      first | refine lw_val rfl (run_move (v := .pointer (some _)) rfl) ?_ | refine lw_val rfl (run_move (v := .pointer none) rfl) ?_
      refine lw_call rfl en35 (clnew_sl (t := 3) hE hs (by omega)) ?_
      clear hs
      rintro _ w ⟨q, rfl, hs⟩
      first | refine lw_val rfl (run_move (v := .tuple _) rfl) ?_
      first | refine lw_val rfl (run_extract (v := .pointer (some _)) rfl rfl) ?_ | refine lw_val rfl (run_extract (v := .pointer none) rfl rfl) ?_
      first | refine lw_val rfl (run_extract (v := errV ad _) rfl rfl) ?_ | refine lw_val rfl (run_extract (v := .nilIface) rfl rfl) ?_
      first | refine lw_val rfl (run_assign (v := .pointer (some _)) rfl) ?_ | refine lw_val rfl (run_assign (v := .pointer none) rfl) ?_
      first | refine lw_val rfl (run_assign (v := errV ad _) rfl) ?_ | refine lw_val rfl (run_assign (v := .nilIface) rfl) ?_
      refine lw_nil ?_
      refine cw_seq ?_
      refine cw_seq ?_
      refine cw_region ?_
      first | refine lw_val rfl (run_move (v := .pointer (some _)) rfl) ?_ | refine lw_val rfl (run_move (v := .pointer none) rfl) ?_
      refine lw_val rfl (run_eqpn Tryd.underlying47 rfl rfl) ?_
      first | refine lw_val rfl (run_move (v := .bool _) rfl) ?_
      refine lw_on rfl rfl rfl ?_
      first | refine lw_val rfl (run_move (v := errV ad _) rfl) ?_ | refine lw_val rfl (run_move (v := .nilIface) rfl) ?_
      refine lw_on rfl rfl rfl ?_
      first | refine lw_val rfl (run_neerrn (ad := ad) rfl) ?_ | refine lw_val rfl (run_nenn rfl) ?_
      first | refine lw_val rfl (run_pickF (v := .bool _) rfl rfl rfl) ?_
      first | refine lw_val rfl (run_move (v := .bool _) rfl) ?_
      refine lw_on rfl rfl (rfl) ?_
      first | refine lw_val rfl (run_move (v := .pointer (some _)) rfl) ?_ | refine lw_val rfl (run_move (v := .pointer none) rfl) ?_
      refine lw_on rfl rfl (rfl) ?_
      first | refine lw_val rfl (run_move (v := .slice _ _ _) rfl) ?_
      refine lw_on rfl rfl (rfl) ?_
      refine lw_call rfl en36 (clPut_sl (t := 3) (nm := nA) (b := l) hE (by decide) (by decide) hs (by decide) (by decide) (hb.rd _) (by omega) (put_nA l)) ?_
      clear hs
      rintro _ w ⟨rfl, hs⟩
      refine lw_on rfl rfl (rfl) ?_
      first | refine lw_val rfl (run_neerrn (ad := ad) rfl) ?_ | refine lw_val rfl (run_nenn rfl) ?_
      first | refine lw_val rfl (run_pickF (v := .bool _) rfl (rfl) rfl) ?_
      refine lw_nil ?_
      refine cw_iff rfl (not_f (decide_eq_true rfl)) ?_
      refine cw_skip ?_
      refine cw_seq ?_
      refine cw_region ?_
      first | refine lw_val rfl (run_move (v := .int .i64 _) rfl) ?_
      first | refine lw_val rfl (run_move (v := .slice _ _ _) rfl) ?_
      refine lw_val rfl (run_lenS Tryd.underlying27 rfl) ?_
      refine lw_val rfl (run_add64 rfl rfl rfl (inI (by omega) (by omega))) ?_
      refine lw_call rfl en34 (number_sl hs _ _ (by omega)) ?_
      clear hs
      rintro _ w ⟨o0, ho0, rfl, hs⟩
      first | refine lw_val rfl (run_assign (v := .int .i64 _) rfl) ?_
      refine lw_nil ?_
      refine cw_seq ?_
      refine cw_region ?_
      first | refine lw_val rfl (run_move (v := .int .i64 _) rfl) ?_
      first | refine lw_val rfl (run_move (v := .slice _ _ _) rfl) ?_
      refine lw_val rfl (run_lenS Tryd.underlying27 rfl) ?_
      first | refine lw_val rfl (run_move (v := .int .i64 _) rfl) ?_
      refine lw_val rfl (run_sub64 rfl rfl rfl (inI (by omega) (by omega))) ?_
      refine lw_val rfl (run_add64 rfl rfl rfl (inI (by omega) (by omega))) ?_
      refine lw_call rfl en34 (number_sl hs _ _ (by omega)) ?_
      clear hs
      rintro _ w ⟨m0, hm0, rfl, hs⟩
      first | refine lw_val rfl (run_assign (v := .int .i64 _) rfl) ?_
      refine lw_nil ?_
      refine cw_seq ?_
      refine cw_region ?_
      first | refine lw_val rfl (run_move (v := .pointer (some _)) rfl) ?_ | refine lw_val rfl (run_move (v := .pointer none) rfl) ?_
      first | refine lw_val rfl (run_move (v := .slice _ _ _) rfl) ?_
      refine lw_call rfl en22 (script_sl (outs := outs) (hs.pick 1 rfl) (ho.rd _) (by simp [oneSt]; omega)) ?_
      clear hs
      rintro _ w ⟨rfl, hs⟩
      refine lw_nil ?_
      refine cw_seq ?_
      refine cw_seq ?_
      refine cw_region ?_
      first | refine lw_val rfl (run_assign (v := .int .i64 _) rfl) ?_
      refine lw_nil ?_
      refine cw_block ?_
      refine cw_loop (X := Nat × St × Nat) [8, 13, 14, 15, 16, 17, 18, 19, 20, 70, 71, 72, 73, 74, 75, 76, 77, 78, 79, 80, 81, 82, 83, 84, 85, 86, 87, 88, 89, 90, 91, 92, 93, 94, 95, 96, 97, 98, 99, 100, 101, 102, 103, 104, 105, 106, 107, 108, 109, 110, 111, 112, 113, 114, 115, 116, 117, 118, 119, 120, 121, 122, 123, 124, 125, 126, 127, 128, 129, 130, 131, 132, 133, 134] (fun x => [(13, .int .i64 (x.1 : Nat))]) (fun x w => x.1 ≤ 8 ∧ CRI l x.1 x.2.1 x.2.2 ∧ Mem g w [clientC q p 3 (x.2.2 : Nat), StoreC p x.2.1]) (fun x => 8 - x.1) ((0, { oneSt nA l 1 with script := outs }, 1)) ?_ ?_ ?_
      · exact ⟨rfl, trivial⟩
      · exact ⟨by omega, ⟨⟨rfl, rfl⟩, by simp [oneSt], by simp [oneSt], by simp⟩, hs.arr [1, 0] 2 (by decide)⟩
      clear hs
      rintro x ξ w hI
      obtain ⟨i, st, a2⟩ := x
      obtain ⟨hi, ⟨hone, hc1, hc2, hc3⟩, hs⟩ := hI
      simp only at hi hone hc1 hc2 hc3 hs
      refine cw_seq ?_
      refine cw_seq ?_
      refine cw_region ?_
      first | refine lw_val rfl (run_move (v := .int .i64 _) rfl) ?_
      refine lw_val rfl (run_lss rfl rfl) ?_
      refine lw_nil ?_
      refine cw_if rfl ?_ ?_
      · intro h71
        have g71 := of_decide_eq_true h71
        simp only at g71
        obtain ⟨lost1, x1, n1, st1, out1, hk1⟩ : ∃ lost1 x1 n1 st1 out1, againR (getStep nA (o0 : Nat) (m0 : Nat)) 3 (st, []) = (lost1, x1, n1, st1, out1) := ⟨_, _, _, _, _, rfl⟩
        have hr1 := get_res (by omega) hone hk1
        obtain ⟨q1, q2, q3, q4, q5⟩ := again_begin (step := getStep nA (o0 : Nat) (m0 : Nat)) (fun s => getR_st nA (o0 : Nat) (m0 : Nat) s.1) hk1
        have hone1 : One l st1 := ⟨q4.trans hone.1, q5.trans hone.2⟩
        obtain ⟨lost2, x2, n2, st2, out2, hk2⟩ : ∃ lost2 x2 n2 st2 out2, againR (listStep nE) 3 (st1, []) = (lost2, x2, n2, st2, out2) := ⟨_, _, _, _, _, rfl⟩
        have hr2 := list_res hone1 hk2
        obtain ⟨r1, r2, r3, r4, r5⟩ := again_begin (step := listStep nE) (fun s => listR_st nE s.1) hk2
        have hone2 : One l st2 := ⟨r4.trans hone1.1, r5.trans hone1.2⟩
        obtain ⟨lost3, x3, n3, st3, i3, j3, hk3⟩ : ∃ lost3 x3 n3 st3 i3 j3, againR (headStep nA) 3 (st2, 0, 0) = (lost3, x3, n3, st3, i3, j3) := ⟨_, _, _, _, _, _, rfl⟩
        have hr3 := head_resA hone2 hk3
        obtain ⟨u1, u2, u3, u4, u5⟩ := again_begin (step := headStep nA) (fun s => headR_counts nA s.1) hk3
        have hone3 : One l st3 := ⟨u4.trans hone2.1, u5.trans hone2.2⟩
        refine cw_skip ?_
        refine cw_seq ?_
        refine cw_block ?_
        refine cw_seq ?_
        refine cw_region ?_
        first | refine lw_val rfl (run_move (v := .pointer (some _)) rfl) ?_ | refine lw_val rfl (run_move (v := .pointer none) rfl) ?_
        first | refine lw_val rfl (run_move (v := .int .i64 _) rfl) ?_
        first | refine lw_val rfl (run_move (v := .int .i64 _) rfl) ?_
        refine lw_call rfl en62 (clGet_sl hE (hone.small (by omega)) ⟨by omega, by omega⟩ (by decide) hs (by omega) (by omega) (inI (by omega) (by omega)) (inI (by omega) (by omega)) hk1) ?_
        clear hs
        rintro _ w ⟨a78, c78, rfl, hs⟩
        first | refine lw_val rfl (run_move (v := .tuple _) rfl) ?_
        first | refine lw_val rfl (run_extract (v := .slice _ _ _) rfl rfl) ?_
        first | refine lw_val rfl (run_extract (v := errV ad _) rfl rfl) ?_ | refine lw_val rfl (run_extract (v := .nilIface) rfl rfl) ?_
        first | refine lw_val rfl (run_assign (v := .slice _ _ _) rfl) ?_
        first | refine lw_val rfl (run_assign (v := errV ad _) rfl) ?_ | refine lw_val rfl (run_assign (v := .nilIface) rfl) ?_
        refine lw_nil ?_
        refine cw_seq ?_
        refine cw_seq ?_
        refine cw_region ?_
        first | refine lw_val rfl (run_move (v := errV ad _) rfl) ?_ | refine lw_val rfl (run_move (v := .nilIface) rfl) ?_
        first | refine lw_val rfl (run_neerrn (ad := ad) rfl) ?_ | refine lw_val rfl (run_nenn rfl) ?_
        first | refine lw_val rfl (run_move (v := .bool _) rfl) ?_
        refine lw_split (t := _) (d := 83) rfl ?_ ?_
        · intro h82
          have g82 := ne_t h82
          obtain ⟨rfl, rfl⟩ : 111 = x1 ∧ [] = out1 := by rcases hr1 with h | h; exact ⟨h.1.symm, h.2.symm⟩; exact absurd h.1 g82
          refine lw_on rfl rfl h82 ?_
          first | refine lw_val rfl (run_move (v := errV ad _) rfl) ?_ | refine lw_val rfl (run_move (v := .nilIface) rfl) ?_
          refine lw_on rfl rfl h82 ?_
          refine lw_call rfl en25 (is_sl hA hs (d := 111) (.inr m111) _) ?_
          clear hs
          rintro _ w ⟨rfl, hs⟩
          refine lw_on rfl rfl h82 ?_
          refine lw_val rfl (run_not rfl) ?_
          refine lw_on rfl rfl h82 ?_
          first | refine lw_val rfl (run_move (v := .bool _) rfl) ?_
          refine lw_on rfl rfl (not_f (decide_eq_true rfl)) ?_
          first | refine lw_val rfl (run_move (v := .slice _ _ _) rfl) ?_
          refine lw_on rfl rfl (not_f (decide_eq_true rfl)) ?_
          refine lw_val rfl (run_lenS Tryd.underlying27 rfl) ?_
          refine lw_on rfl rfl (not_f (decide_eq_true rfl)) ?_
          refine lw_val rfl (run_nei rfl rfl) ?_
          refine lw_on rfl rfl h82 ?_
          first | refine lw_val rfl (run_pickF (v := .bool _) rfl (not_f (decide_eq_true rfl)) rfl) ?_
          first | refine lw_val rfl (run_pickT (v := .bool _) rfl h82 rfl) ?_
          first | refine lw_val rfl (run_move (v := .bool _) rfl) ?_
          refine lw_on rfl rfl (not_f (decide_eq_true rfl)) ?_
          first | refine lw_val rfl (run_move (v := errV ad _) rfl) ?_ | refine lw_val rfl (run_move (v := .nilIface) rfl) ?_
          refine lw_on rfl rfl (not_f (decide_eq_true rfl)) ?_
          first | refine lw_val rfl (run_eqerrn (ad := ad) rfl) ?_ | refine lw_val rfl (run_eqnn rfl) ?_
          refine lw_on rfl rfl (not_f (decide_eq_true rfl)) ?_
          first | refine lw_val rfl (run_move (v := .bool _) rfl) ?_
          refine lw_off rfl rfl rfl (decide_eq_false g82) ?_
          refine lw_off rfl rfl rfl (decide_eq_false g82) ?_
          refine lw_off rfl rfl rfl (decide_eq_false g82) ?_
          refine lw_off rfl rfl rfl (decide_eq_false g82) ?_
          refine lw_off rfl rfl rfl (decide_eq_false g82) ?_
          refine lw_off rfl rfl rfl (decide_eq_false g82) ?_
          refine lw_off rfl rfl rfl (decide_eq_false g82) ?_
          refine lw_off rfl rfl rfl (decide_eq_false g82) ?_
          refine lw_off rfl rfl rfl (decide_eq_false g82) ?_
          refine lw_on rfl rfl (not_f (decide_eq_true rfl)) ?_
          first | refine lw_val rfl (run_pickF (v := .bool _) rfl (decide_eq_false g82) rfl) ?_
          first | refine lw_val rfl (run_pickF (v := .bool _) rfl (not_f (decide_eq_true rfl)) rfl) ?_
          refine lw_nil ?_
          refine cw_iff rfl rfl ?_
          refine cw_skip ?_
          refine cw_seq ?_
          refine cw_region ?_
          first | refine lw_val rfl (run_move (v := .pointer (some _)) rfl) ?_ | refine lw_val rfl (run_move (v := .pointer none) rfl) ?_
          refine lw_call rfl en63 (clList_sl hE hone1.named ⟨by omega, by omega⟩ (by decide) hs.tail (by omega) (by omega) hk2) ?_
          clear hs
          rintro _ w ⟨a110, c110, rfl, hs⟩
          first | refine lw_val rfl (run_move (v := .tuple _) rfl) ?_
          first | refine lw_val rfl (run_extract (v := .slice _ _ _) rfl rfl) ?_
          first | refine lw_val rfl (run_extract (v := errV ad _) rfl rfl) ?_ | refine lw_val rfl (run_extract (v := .nilIface) rfl rfl) ?_
          first | refine lw_val rfl (run_assign (v := .slice _ _ _) rfl) ?_
          first | refine lw_val rfl (run_assign (v := errV ad _) rfl) ?_ | refine lw_val rfl (run_assign (v := .nilIface) rfl) ?_
          refine lw_nil ?_
          refine cw_seq ?_
          refine cw_seq ?_
          refine cw_region ?_
          first | refine lw_val rfl (run_move (v := errV ad _) rfl) ?_ | refine lw_val rfl (run_move (v := .nilIface) rfl) ?_
          first | refine lw_val rfl (run_eqerrn (ad := ad) rfl) ?_ | refine lw_val rfl (run_eqnn rfl) ?_
          first | refine lw_val rfl (run_move (v := .bool _) rfl) ?_
          refine lw_split (t := _) (d := 115) rfl ?_ ?_
          · intro h114
            have g114 := of_decide_eq_true h114
            obtain rfl : [nA] = out2 := by rcases hr2 with h | h; exact absurd (h.symm.trans g114) (by decide); exact h.2.symm
            refine lw_on rfl rfl h114 ?_
            first | refine lw_val rfl (run_move (v := .slice _ _ _) rfl) ?_
            refine lw_on rfl rfl h114 ?_
            refine lw_buildSlice hs rfl ((textsL [nA])) Tryd.underlying69 zs9 rfl (cells_one (textsL_one _)) rfl rfl rfl ?_
            clear hs
            intro b117 w hs
            try simp only [List.set_cons_succ, List.set_cons_zero] at hs
            refine lw_on rfl rfl h114 ?_
            refine lw_call rfl en49 (sameT_sl (la := [nA]) (lb := [nA]) hs (Rd.own 1 rfl) (Rd.cells (n := 1) (cs := textsL [nA]) 0 rfl rfl) rfl rfl (by decide)) ?_
            clear hs
            rintro _ w ⟨rfl, hs⟩
            refine lw_on rfl rfl h114 ?_
            refine lw_val rfl (run_not rfl) ?_
            first | refine lw_val rfl (run_pickT (v := .bool _) rfl h114 rfl) ?_
            refine lw_nil ?_
            refine cw_iff rfl (not_f (decide_eq_true rfl)) ?_
            refine cw_skip ?_
            refine cw_seq ?_
            replace hs := hs.tail.tail
            refine cw_region ?_
            first | refine lw_val rfl (run_move (v := .pointer (some _)) rfl) ?_ | refine lw_val rfl (run_move (v := .pointer none) rfl) ?_
            refine lw_call rfl en64 (clHead_sl hE (hone2.small (by omega)) ⟨by omega, by omega⟩ (by decide) hs (by omega) (by omega) hk3) ?_
            clear hs
            rintro _ w ⟨rfl, hs⟩
            first | refine lw_val rfl (run_move (v := .tuple _) rfl) ?_
            first | refine lw_val rfl (run_extract (v := .int .i64 _) rfl rfl) ?_
            first | refine lw_val rfl (run_extract (v := .int .u32 _) rfl rfl) ?_
            first | refine lw_val rfl (run_extract (v := errV ad _) rfl rfl) ?_ | refine lw_val rfl (run_extract (v := .nilIface) rfl rfl) ?_
            first | refine lw_val rfl (run_assign (v := .int .i64 _) rfl) ?_
            first | refine lw_val rfl (run_assign (v := .int .u32 _) rfl) ?_
            first | refine lw_val rfl (run_assign (v := errV ad _) rfl) ?_ | refine lw_val rfl (run_assign (v := .nilIface) rfl) ?_
            refine lw_nil ?_
            refine cw_seq ?_
            refine cw_region ?_
            first | refine lw_val rfl (run_move (v := errV ad _) rfl) ?_ | refine lw_val rfl (run_move (v := .nilIface) rfl) ?_
            first | refine lw_val rfl (run_eqerrn (ad := ad) rfl) ?_ | refine lw_val rfl (run_eqnn rfl) ?_
            first | refine lw_val rfl (run_move (v := .bool _) rfl) ?_
            refine lw_split (t := _) (d := 129) rfl ?_ ?_
            · intro h128
              have g128 := of_decide_eq_true h128
              have hi3 : i3 = (l.length : Nat) := by rcases hr3 with h | h; exact absurd (h.symm.trans g128) (by decide); exact h.2
              refine lw_on rfl rfl h128 ?_
              first | refine lw_val rfl (run_move (v := .int .i64 _) rfl) ?_
              refine lw_on rfl rfl h128 ?_
              first | refine lw_val rfl (run_move (v := .slice _ _ _) rfl) ?_
              refine lw_on rfl rfl h128 ?_
              refine lw_val rfl (run_lenS Tryd.underlying27 rfl) ?_
              refine lw_on rfl rfl h128 ?_
              refine lw_val rfl (run_nei rfl rfl) ?_
              first | refine lw_val rfl (run_pickT (v := .bool _) rfl h128 rfl) ?_
              refine lw_nil ?_
              refine cw_iff rfl (not_f (decide_eq_true hi3)) ?_
              refine cw_skip ?_
              refine cw_region ?_
              first | refine lw_val rfl (run_move (v := .int .i64 _) rfl) ?_
              refine lw_val rfl (run_add64 rfl rfl rfl (inI (by omega) (by omega))) ?_
              first | refine lw_val rfl (run_assign (v := .int .i64 _) rfl) ?_
              refine lw_nil ?_
              exact ⟨(i + 1, st3, a2 + n1 + n2 + n3), by simp only; omega, ⟨by simp only; omega, ⟨hone3, by simp only; omega, by simp only; omega, by simp only; omega⟩, hs⟩, ⟨rfl, trivial⟩, by repeat (first | exact Out.mix _ _ _ | refine Out.updo rfl ?_ | refine Out.upd rfl ?_)⟩
            · intro h128
              have g128 := of_decide_eq_false h128
              refine lw_off rfl rfl rfl h128 ?_
              refine lw_off rfl rfl rfl h128 ?_
              refine lw_off rfl rfl rfl h128 ?_
              refine lw_off rfl rfl rfl h128 ?_
              first | refine lw_val rfl (run_pickF (v := .bool _) rfl h128 rfl) ?_
              refine lw_nil ?_
              refine cw_iff rfl rfl ?_
              refine cw_skip ?_
              refine cw_region ?_
              first | refine lw_val rfl (run_move (v := .int .i64 _) rfl) ?_
              refine lw_val rfl (run_add64 rfl rfl rfl (inI (by omega) (by omega))) ?_
              first | refine lw_val rfl (run_assign (v := .int .i64 _) rfl) ?_
              refine lw_nil ?_
              exact ⟨(i + 1, st3, a2 + n1 + n2 + n3), by simp only; omega, ⟨by simp only; omega, ⟨hone3, by simp only; omega, by simp only; omega, by simp only; omega⟩, hs⟩, ⟨rfl, trivial⟩, by repeat (first | exact Out.mix _ _ _ | refine Out.updo rfl ?_ | refine Out.upd rfl ?_)⟩
          · intro h114
            have g114 := of_decide_eq_false h114
            refine lw_off rfl rfl rfl h114 ?_
            refine lw_off rfl rfl rfl h114 ?_
            refine lw_off rfl rfl rfl h114 ?_
            refine lw_off rfl rfl rfl h114 ?_
            first | refine lw_val rfl (run_pickF (v := .bool _) rfl h114 rfl) ?_
            refine lw_nil ?_
            refine cw_iff rfl rfl ?_
            refine cw_skip ?_
            refine cw_seq ?_
            replace hs := hs.tail
            refine cw_region ?_
            first | refine lw_val rfl (run_move (v := .pointer (some _)) rfl) ?_ | refine lw_val rfl (run_move (v := .pointer none) rfl) ?_
            refine lw_call rfl en64 (clHead_sl hE (hone2.small (by omega)) ⟨by omega, by omega⟩ (by decide) hs (by omega) (by omega) hk3) ?_
            clear hs
            rintro _ w ⟨rfl, hs⟩
            first | refine lw_val rfl (run_move (v := .tuple _) rfl) ?_
            first | refine lw_val rfl (run_extract (v := .int .i64 _) rfl rfl) ?_
            first | refine lw_val rfl (run_extract (v := .int .u32 _) rfl rfl) ?_
            first | refine lw_val rfl (run_extract (v := errV ad _) rfl rfl) ?_ | refine lw_val rfl (run_extract (v := .nilIface) rfl rfl) ?_
            first | refine lw_val rfl (run_assign (v := .int .i64 _) rfl) ?_
            first | refine lw_val rfl (run_assign (v := .int .u32 _) rfl) ?_
            first | refine lw_val rfl (run_assign (v := errV ad _) rfl) ?_ | refine lw_val rfl (run_assign (v := .nilIface) rfl) ?_
            refine lw_nil ?_
            refine cw_seq ?_
            refine cw_region ?_
            first | refine lw_val rfl (run_move (v := errV ad _) rfl) ?_ | refine lw_val rfl (run_move (v := .nilIface) rfl) ?_
            first | refine lw_val rfl (run_eqerrn (ad := ad) rfl) ?_ | refine lw_val rfl (run_eqnn rfl) ?_
            first | refine lw_val rfl (run_move (v := .bool _) rfl) ?_
            refine lw_split (t := _) (d := 129) rfl ?_ ?_
            · intro h128
              have g128 := of_decide_eq_true h128
              have hi3 : i3 = (l.length : Nat) := by rcases hr3 with h | h; exact absurd (h.symm.trans g128) (by decide); exact h.2
              refine lw_on rfl rfl h128 ?_
              first | refine lw_val rfl (run_move (v := .int .i64 _) rfl) ?_
              refine lw_on rfl rfl h128 ?_
              first | refine lw_val rfl (run_move (v := .slice _ _ _) rfl) ?_
              refine lw_on rfl rfl h128 ?_
              refine lw_val rfl (run_lenS Tryd.underlying27 rfl) ?_
              refine lw_on rfl rfl h128 ?_
              refine lw_val rfl (run_nei rfl rfl) ?_
              first | refine lw_val rfl (run_pickT (v := .bool _) rfl h128 rfl) ?_
              refine lw_nil ?_
              refine cw_iff rfl (not_f (decide_eq_true hi3)) ?_
              refine cw_skip ?_
              refine cw_region ?_
              first | refine lw_val rfl (run_move (v := .int .i64 _) rfl) ?_
              refine lw_val rfl (run_add64 rfl rfl rfl (inI (by omega) (by omega))) ?_
              first | refine lw_val rfl (run_assign (v := .int .i64 _) rfl) ?_
              refine lw_nil ?_
              exact ⟨(i + 1, st3, a2 + n1 + n2 + n3), by simp only; omega, ⟨by simp only; omega, ⟨hone3, by simp only; omega, by simp only; omega, by simp only; omega⟩, hs⟩, ⟨rfl, trivial⟩, by repeat (first | exact Out.mix _ _ _ | refine Out.updo rfl ?_ | refine Out.upd rfl ?_)⟩
            · intro h128
              have g128 := of_decide_eq_false h128
              refine lw_off rfl rfl rfl h128 ?_
              refine lw_off rfl rfl rfl h128 ?_
              refine lw_off rfl rfl rfl h128 ?_
              refine lw_off rfl rfl rfl h128 ?_
              first | refine lw_val rfl (run_pickF (v := .bool _) rfl h128 rfl) ?_
              refine lw_nil ?_
              refine cw_iff rfl rfl ?_
              refine cw_skip ?_
              refine cw_region ?_
              first | refine lw_val rfl (run_move (v := .int .i64 _) rfl) ?_
              refine lw_val rfl (run_add64 rfl rfl rfl (inI (by omega) (by omega))) ?_
              first | refine lw_val rfl (run_assign (v := .int .i64 _) rfl) ?_
              refine lw_nil ?_
              exact ⟨(i + 1, st3, a2 + n1 + n2 + n3), by simp only; omega, ⟨by simp only; omega, ⟨hone3, by simp only; omega, by simp only; omega, by simp only; omega⟩, hs⟩, ⟨rfl, trivial⟩, by repeat (first | exact Out.mix _ _ _ | refine Out.updo rfl ?_ | refine Out.upd rfl ?_)⟩
        · intro h82
          have g82 := ne_f h82
          obtain rfl : (l.take (o0 + m0)).drop o0 = out1 := by rcases hr1 with h | h; exact absurd (h.1.symm.trans g82) (by decide); exact h.2.symm
          refine lw_off rfl rfl rfl h82 ?_
          refine lw_off rfl rfl rfl h82 ?_
          refine lw_off rfl rfl rfl h82 ?_
          refine lw_off rfl rfl rfl h82 ?_
          refine lw_offU rfl rfl rfl ?_
          refine lw_offU rfl rfl rfl ?_
          refine lw_offU rfl rfl rfl ?_
          refine lw_off rfl rfl rfl h82 ?_
          first | refine lw_val rfl (run_pickF (v := .bool _) rfl h82 rfl) ?_
          first | refine lw_val rfl (run_move (v := .bool _) rfl) ?_
          refine lw_on rfl rfl rfl ?_
          first | refine lw_val rfl (run_move (v := errV ad _) rfl) ?_ | refine lw_val rfl (run_move (v := .nilIface) rfl) ?_
          refine lw_on rfl rfl rfl ?_
          first | refine lw_val rfl (run_eqerrn (ad := ad) rfl) ?_ | refine lw_val rfl (run_eqnn rfl) ?_
          refine lw_on rfl rfl rfl ?_
          first | refine lw_val rfl (run_move (v := .bool _) rfl) ?_
          refine lw_on rfl rfl (decide_eq_true g82) ?_
          first | refine lw_val rfl (run_move (v := .slice _ _ _) rfl) ?_
          refine lw_on rfl rfl (decide_eq_true g82) ?_
          first | refine lw_val rfl (run_move (v := .slice _ _ _) rfl) ?_
          refine lw_on rfl rfl (decide_eq_true g82) ?_
          first | refine lw_val rfl (run_move (v := .int .i64 _) rfl) ?_
          refine lw_on rfl rfl (decide_eq_true g82) ?_
          first | refine lw_val rfl (run_move (v := .int .i64 _) rfl) ?_
          refine lw_on rfl rfl (decide_eq_true g82) ?_
          first | refine lw_val rfl (run_move (v := .int .i64 _) rfl) ?_
          refine lw_on rfl rfl (decide_eq_true g82) ?_
          refine lw_val rfl (run_add64 rfl rfl rfl (inI (by omega) (by omega))) ?_
          refine lw_on rfl rfl (decide_eq_true g82) ?_
          refine lw_val rfl (run_slice Tryd.underlying27 sz5 rfl rfl rfl (lo := o0) (hi := o0 + m0) rfl rfl (by omega) (by omega)) ?_
          refine lw_on rfl rfl (decide_eq_true g82) ?_
          refine lw_call rfl en38 (sameB_sl (la := (l.take (o0 + m0)).drop o0) (lb := (l.take (o0 + m0)).drop o0) hs (Rd.own 0 rfl) ((hb.rd _).subB (by omega) (by omega)) rfl (by simp only [List.length_drop, List.length_take]; omega) (by simp only [List.length_drop, List.length_take]; omega)) ?_
          clear hs
          rintro _ w ⟨rfl, hs⟩
          refine lw_on rfl rfl (decide_eq_true g82) ?_
          refine lw_val rfl (run_not rfl) ?_
          refine lw_on rfl rfl rfl ?_
          first | refine lw_val rfl (run_pickT (v := .bool _) rfl (decide_eq_true g82) rfl) ?_
          first | refine lw_val rfl (run_pickF (v := .bool _) rfl rfl rfl) ?_
          refine lw_nil ?_
          refine cw_iff rfl (not_f (decide_eq_true rfl)) ?_
          refine cw_skip ?_
          refine cw_seq ?_
          refine cw_region ?_
          first | refine lw_val rfl (run_move (v := .pointer (some _)) rfl) ?_ | refine lw_val rfl (run_move (v := .pointer none) rfl) ?_
          refine lw_call rfl en63 (clList_sl hE hone1.named ⟨by omega, by omega⟩ (by decide) hs.tail (by omega) (by omega) hk2) ?_
          clear hs
          rintro _ w ⟨a110, c110, rfl, hs⟩
          first | refine lw_val rfl (run_move (v := .tuple _) rfl) ?_
          first | refine lw_val rfl (run_extract (v := .slice _ _ _) rfl rfl) ?_
          first | refine lw_val rfl (run_extract (v := errV ad _) rfl rfl) ?_ | refine lw_val rfl (run_extract (v := .nilIface) rfl rfl) ?_
          first | refine lw_val rfl (run_assign (v := .slice _ _ _) rfl) ?_
          first | refine lw_val rfl (run_assign (v := errV ad _) rfl) ?_ | refine lw_val rfl (run_assign (v := .nilIface) rfl) ?_
          refine lw_nil ?_
          refine cw_seq ?_
          refine cw_seq ?_
          refine cw_region ?_
          first | refine lw_val rfl (run_move (v := errV ad _) rfl) ?_ | refine lw_val rfl (run_move (v := .nilIface) rfl) ?_
          first | refine lw_val rfl (run_eqerrn (ad := ad) rfl) ?_ | refine lw_val rfl (run_eqnn rfl) ?_
          first | refine lw_val rfl (run_move (v := .bool _) rfl) ?_
          refine lw_split (t := _) (d := 115) rfl ?_ ?_
          · intro h114
            have g114 := of_decide_eq_true h114
            obtain rfl : [nA] = out2 := by rcases hr2 with h | h; exact absurd (h.symm.trans g114) (by decide); exact h.2.symm
            refine lw_on rfl rfl h114 ?_
            first | refine lw_val rfl (run_move (v := .slice _ _ _) rfl) ?_
            refine lw_on rfl rfl h114 ?_
            refine lw_buildSlice hs rfl ((textsL [nA])) Tryd.underlying69 zs9 rfl (cells_one (textsL_one _)) rfl rfl rfl ?_
            clear hs
            intro b117 w hs
            try simp only [List.set_cons_succ, List.set_cons_zero] at hs
            refine lw_on rfl rfl h114 ?_
            refine lw_call rfl en49 (sameT_sl (la := [nA]) (lb := [nA]) hs (Rd.own 1 rfl) (Rd.cells (n := 1) (cs := textsL [nA]) 0 rfl rfl) rfl rfl (by decide)) ?_
            clear hs
            rintro _ w ⟨rfl, hs⟩
            refine lw_on rfl rfl h114 ?_
            refine lw_val rfl (run_not rfl) ?_
            first | refine lw_val rfl (run_pickT (v := .bool _) rfl h114 rfl) ?_
            refine lw_nil ?_
            refine cw_iff rfl (not_f (decide_eq_true rfl)) ?_
            refine cw_skip ?_
            refine cw_seq ?_
            replace hs := hs.tail.tail
            refine cw_region ?_
            first | refine lw_val rfl (run_move (v := .pointer (some _)) rfl) ?_ | refine lw_val rfl (run_move (v := .pointer none) rfl) ?_
            refine lw_call rfl en64 (clHead_sl hE (hone2.small (by omega)) ⟨by omega, by omega⟩ (by decide) hs (by omega) (by omega) hk3) ?_
            clear hs
            rintro _ w ⟨rfl, hs⟩
            first | refine lw_val rfl (run_move (v := .tuple _) rfl) ?_
            first | refine lw_val rfl (run_extract (v := .int .i64 _) rfl rfl) ?_
            first | refine lw_val rfl (run_extract (v := .int .u32 _) rfl rfl) ?_
            first | refine lw_val rfl (run_extract (v := errV ad _) rfl rfl) ?_ | refine lw_val rfl (run_extract (v := .nilIface) rfl rfl) ?_
            first | refine lw_val rfl (run_assign (v := .int .i64 _) rfl) ?_
            first | refine lw_val rfl (run_assign (v := .int .u32 _) rfl) ?_
            first | refine lw_val rfl (run_assign (v := errV ad _) rfl) ?_ | refine lw_val rfl (run_assign (v := .nilIface) rfl) ?_
            refine lw_nil ?_
            refine cw_seq ?_
            refine cw_region ?_
            first | refine lw_val rfl (run_move (v := errV ad _) rfl) ?_ | refine lw_val rfl (run_move (v := .nilIface) rfl) ?_
            first | refine lw_val rfl (run_eqerrn (ad := ad) rfl) ?_ | refine lw_val rfl (run_eqnn rfl) ?_
            first | refine lw_val rfl (run_move (v := .bool _) rfl) ?_
            refine lw_split (t := _) (d := 129) rfl ?_ ?_
            · intro h128
              have g128 := of_decide_eq_true h128
              have hi3 : i3 = (l.length : Nat) := by rcases hr3 with h | h; exact absurd (h.symm.trans g128) (by decide); exact h.2
              refine lw_on rfl rfl h128 ?_
              first | refine lw_val rfl (run_move (v := .int .i64 _) rfl) ?_
              refine lw_on rfl rfl h128 ?_
              first | refine lw_val rfl (run_move (v := .slice _ _ _) rfl) ?_
              refine lw_on rfl rfl h128 ?_
              refine lw_val rfl (run_lenS Tryd.underlying27 rfl) ?_
              refine lw_on rfl rfl h128 ?_
              refine lw_val rfl (run_nei rfl rfl) ?_
              first | refine lw_val rfl (run_pickT (v := .bool _) rfl h128 rfl) ?_
              refine lw_nil ?_
              refine cw_iff rfl (not_f (decide_eq_true hi3)) ?_
              refine cw_skip ?_
              refine cw_region ?_
              first | refine lw_val rfl (run_move (v := .int .i64 _) rfl) ?_
              refine lw_val rfl (run_add64 rfl rfl rfl (inI (by omega) (by omega))) ?_
              first | refine lw_val rfl (run_assign (v := .int .i64 _) rfl) ?_
              refine lw_nil ?_
              exact ⟨(i + 1, st3, a2 + n1 + n2 + n3), by simp only; omega, ⟨by simp only; omega, ⟨hone3, by simp only; omega, by simp only; omega, by simp only; omega⟩, hs⟩, ⟨rfl, trivial⟩, by repeat (first | exact Out.mix _ _ _ | refine Out.updo rfl ?_ | refine Out.upd rfl ?_)⟩
            · intro h128
              have g128 := of_decide_eq_false h128
              refine lw_off rfl rfl rfl h128 ?_
              refine lw_off rfl rfl rfl h128 ?_
              refine lw_off rfl rfl rfl h128 ?_
              refine lw_off rfl rfl rfl h128 ?_
              first | refine lw_val rfl (run_pickF (v := .bool _) rfl h128 rfl) ?_
              refine lw_nil ?_
              refine cw_iff rfl rfl ?_
              refine cw_skip ?_
              refine cw_region ?_
              first | refine lw_val rfl (run_move (v := .int .i64 _) rfl) ?_
              refine lw_val rfl (run_add64 rfl rfl rfl (inI (by omega) (by omega))) ?_
              first | refine lw_val rfl (run_assign (v := .int .i64 _) rfl) ?_
              refine lw_nil ?_
              exact ⟨(i + 1, st3, a2 + n1 + n2 + n3), by simp only; omega, ⟨by simp only; omega, ⟨hone3, by simp only; omega, by simp only; omega, by simp only; omega⟩, hs⟩, ⟨rfl, trivial⟩, by repeat (first | exact Out.mix _ _ _ | refine Out.updo rfl ?_ | refine Out.upd rfl ?_)⟩
          · intro h114
            have g114 := of_decide_eq_false h114
            refine lw_off rfl rfl rfl h114 ?_
            refine lw_off rfl rfl rfl h114 ?_
            refine lw_off rfl rfl rfl h114 ?_
            refine lw_off rfl rfl rfl h114 ?_
            first | refine lw_val rfl (run_pickF (v := .bool _) rfl h114 rfl) ?_
            refine lw_nil ?_
            refine cw_iff rfl rfl ?_
            refine cw_skip ?_
            refine cw_seq ?_
            replace hs := hs.tail
            refine cw_region ?_
            first | refine lw_val rfl (run_move (v := .pointer (some _)) rfl) ?_ | refine lw_val rfl (run_move (v := .pointer none) rfl) ?_
            refine lw_call rfl en64 (clHead_sl hE (hone2.small (by omega)) ⟨by omega, by omega⟩ (by decide) hs (by omega) (by omega) hk3) ?_
            clear hs
            rintro _ w ⟨rfl, hs⟩
            first | refine lw_val rfl (run_move (v := .tuple _) rfl) ?_
            first | refine lw_val rfl (run_extract (v := .int .i64 _) rfl rfl) ?_
            first | refine lw_val rfl (run_extract (v := .int .u32 _) rfl rfl) ?_
            first | refine lw_val rfl (run_extract (v := errV ad _) rfl rfl) ?_ | refine lw_val rfl (run_extract (v := .nilIface) rfl rfl) ?_
            first | refine lw_val rfl (run_assign (v := .int .i64 _) rfl) ?_
            first | refine lw_val rfl (run_assign (v := .int .u32 _) rfl) ?_
            first | refine lw_val rfl (run_assign (v := errV ad _) rfl) ?_ | refine lw_val rfl (run_assign (v := .nilIface) rfl) ?_
            refine lw_nil ?_
            refine cw_seq ?_
            refine cw_region ?_
            first | refine lw_val rfl (run_move (v := errV ad _) rfl) ?_ | refine lw_val rfl (run_move (v := .nilIface) rfl) ?_
            first | refine lw_val rfl (run_eqerrn (ad := ad) rfl) ?_ | refine lw_val rfl (run_eqnn rfl) ?_
            first | refine lw_val rfl (run_move (v := .bool _) rfl) ?_
            refine lw_split (t := _) (d := 129) rfl ?_ ?_
            · intro h128
              have g128 := of_decide_eq_true h128
              have hi3 : i3 = (l.length : Nat) := by rcases hr3 with h | h; exact absurd (h.symm.trans g128) (by decide); exact h.2
              refine lw_on rfl rfl h128 ?_
              first | refine lw_val rfl (run_move (v := .int .i64 _) rfl) ?_
              refine lw_on rfl rfl h128 ?_
              first | refine lw_val rfl (run_move (v := .slice _ _ _) rfl) ?_
              refine lw_on rfl rfl h128 ?_
              refine lw_val rfl (run_lenS Tryd.underlying27 rfl) ?_
              refine lw_on rfl rfl h128 ?_
              refine lw_val rfl (run_nei rfl rfl) ?_
              first | refine lw_val rfl (run_pickT (v := .bool _) rfl h128 rfl) ?_
              refine lw_nil ?_
              refine cw_iff rfl (not_f (decide_eq_true hi3)) ?_
              refine cw_skip ?_
              refine cw_region ?_
              first | refine lw_val rfl (run_move (v := .int .i64 _) rfl) ?_
              refine lw_val rfl (run_add64 rfl rfl rfl (inI (by omega) (by omega))) ?_
              first | refine lw_val rfl (run_assign (v := .int .i64 _) rfl) ?_
              refine lw_nil ?_
              exact ⟨(i + 1, st3, a2 + n1 + n2 + n3), by simp only; omega, ⟨by simp only; omega, ⟨hone3, by simp only; omega, by simp only; omega, by simp only; omega⟩, hs⟩, ⟨rfl, trivial⟩, by repeat (first | exact Out.mix _ _ _ | refine Out.updo rfl ?_ | refine Out.upd rfl ?_)⟩
            · intro h128
              have g128 := of_decide_eq_false h128
              refine lw_off rfl rfl rfl h128 ?_
              refine lw_off rfl rfl rfl h128 ?_
              refine lw_off rfl rfl rfl h128 ?_
              refine lw_off rfl rfl rfl h128 ?_
              first | refine lw_val rfl (run_pickF (v := .bool _) rfl h128 rfl) ?_
              refine lw_nil ?_
              refine cw_iff rfl rfl ?_
              refine cw_skip ?_
              refine cw_region ?_
              first | refine lw_val rfl (run_move (v := .int .i64 _) rfl) ?_
              refine lw_val rfl (run_add64 rfl rfl rfl (inI (by omega) (by omega))) ?_
              first | refine lw_val rfl (run_assign (v := .int .i64 _) rfl) ?_
              refine lw_nil ?_
              exact ⟨(i + 1, st3, a2 + n1 + n2 + n3), by simp only; omega, ⟨by simp only; omega, ⟨hone3, by simp only; omega, by simp only; omega, by simp only; omega⟩, hs⟩, ⟨rfl, trivial⟩, by repeat (first | exact Out.mix _ _ _ | refine Out.updo rfl ?_ | refine Out.upd rfl ?_)⟩
      · intro h71
        have g71 := of_decide_eq_false h71
        have hsn := hone.sorted
        refine cw_exit rfl ?_
        refine cw_seq ?_
        refine cw_region ?_
        first | refine lw_val rfl (run_move (v := .pointer (some _)) rfl) ?_ | refine lw_val rfl (run_move (v := .pointer none) rfl) ?_
        refine lw_call rfl en51 (names_sl (hs.pick 1 rfl) hone.named.1 hone.named.2) ?_
        clear hs
        rintro _ w ⟨a136, c136, rfl, hs⟩
        rw [hsn] at hs ⊢
        refine lw_buildSlice hs rfl ((textsL [nA])) Tryd.underlying69 zs9 rfl (cells_one (textsL_one _)) rfl rfl rfl ?_
        clear hs
        intro b137 w hs
        try simp only [List.set_cons_succ, List.set_cons_zero] at hs
        refine lw_call rfl en49 (sameT_sl (la := [nA]) (lb := [nA]) hs (Rd.own 1 rfl) (Rd.cells (n := 1) (cs := textsL [nA]) 0 rfl rfl) rfl rfl (by decide)) ?_
        clear hs
        rintro _ w ⟨rfl, hs⟩
        first | refine lw_val rfl (run_move (v := .bool _) rfl) ?_
        refine lw_on rfl rfl (decide_eq_true rfl) ?_
        first | refine lw_val rfl (run_move (v := .pointer (some _)) rfl) ?_ | refine lw_val rfl (run_move (v := .pointer none) rfl) ?_
        refine lw_on rfl rfl (decide_eq_true rfl) ?_
        refine lw_call rfl en54 (open_none (hs.pick 2 rfl) hone.2) ?_
        clear hs
        rintro _ w ⟨a141, c141, rfl, hs⟩
        refine lw_on rfl rfl (decide_eq_true rfl) ?_
        refine lw_val rfl (run_lenS Tryd.underlying22 rfl) ?_
        refine lw_on rfl rfl (decide_eq_true rfl) ?_
        refine lw_val rfl (run_eqi rfl rfl) ?_
        first | refine lw_val rfl (run_pickT (v := .bool _) rfl (decide_eq_true rfl) rfl) ?_
        first | refine lw_val rfl (run_assign (v := .bool _) rfl) ?_
        refine lw_nil ?_
        refine cw_ret ?_
        refine res1 (v := .bool _) rfl rfl ?_
        exact ⟨_, rfl, ret_b (decide_eq_true rfl), hs.nil⟩
end Go.Proofs.YtjiigajekminaaaDoor
