/- StoreRanges: the walk. -/
import Derived.Test.YtjiigajekminaaaDoorT2
import Derived.Test.YtjiigajekminaaaDoorLawA
namespace Go.Proofs.YtjiigajekminaaaDoor
set_option linter.all false
open Go.RowKit
attribute [local irreducible] errV
variable {g w : World} {L M : List HP} {ad : Nat → Addr} {p : Nat} {st : St}

theorem u8v_inj {a b : UInt8} (h : ((a.toNat : Nat) : Int) = ((b.toNat : Nat) : Int)) : a = b := UInt8.toNat_inj.1 (by omega)
theorem bytesL_at {l : List UInt8} {k : Nat} {x : UInt8} (h : l[k]? = some x) : (bytesL l)[k]? = some (.int .u8 (x.toNat : Nat)) := by simp [bytesL, u8v, h]
theorem sameB_sl (hs : Mem g w L) {a b : Option Addr} {n m c d : Nat} {la lb : List UInt8} (ha : Rd g L (.slice a n c) (bytesL la)) (hb : Rd g L (.slice b m d) (bytesL lb)) (hn : n = la.length) (hm : m = lb.length) (hlen : la.length ≤ 1073741824) :
    Calls Tryd.prog 38 #[.slice a n c, .slice b m d] w (Ret fun v w' => v = .bool (decide (la = lb)) ∧ Mem g w' L) := by
  subst hn hm
  refine calls_cw Tryd.func38 rfl rfl ?_
  skip
  refine cw_seq ?_
  refine cw_region ?_
  first | refine lw_val rfl (run_assign (v := .bool _) rfl) ?_
  refine lw_nil ?_
  refine cw_seq ?_
  refine cw_seq ?_
  refine cw_region ?_
  first | refine lw_val rfl (run_move (v := .slice _ _ _) rfl) ?_
  refine lw_val rfl (run_lenS Tryd.underlying27 rfl) ?_
  first | refine lw_val rfl (run_move (v := .slice _ _ _) rfl) ?_
  refine lw_val rfl (run_lenS Tryd.underlying27 rfl) ?_
  refine lw_val rfl (run_nei rfl rfl) ?_
  refine lw_nil ?_
  refine cw_if rfl ?_ ?_
  · intro h11
    have g11 := ne_t h11
    refine cw_seq ?_
    refine cw_region ?_
    first | refine lw_val rfl (run_assign (v := .bool _) rfl) ?_
    refine lw_nil ?_
    refine cw_ret ?_
    refine res1 (v := .bool _) rfl rfl ?_
    exact ⟨_, rfl, ret_b (by rw [decide_eq_false (fun e => g11 (by rw [e]))]), hs⟩
  · intro h11
    have g11 := ne_f h11
    refine cw_skip ?_
    refine cw_seq ?_
    refine cw_seq ?_
    refine cw_region ?_
    first | refine lw_val rfl (run_assign (v := .int .i64 _) rfl) ?_
    refine lw_nil ?_
    refine cw_block ?_
    refine cw_loop (X := Nat) [4, 5, 6, 12, 13, 14, 15, 16, 17, 18, 19, 20, 21, 22, 23, 24, 25, 26, 27, 28] (fun k => [(5, .int .i64 (k : Nat))]) (fun k w => k ≤ la.length ∧ la.take k = lb.take k ∧ Mem g w L) (fun k => la.length - k) (0) ?_ ?_ ?_
    · exact ⟨rfl, trivial⟩
    · exact ⟨Nat.zero_le _, rfl, hs⟩
    clear hs
    rintro x ξ w hI
    obtain ⟨hk, hq, hs⟩ := hI
    refine cw_seq ?_
    refine cw_seq ?_
    refine cw_region ?_
    first | refine lw_val rfl (run_move (v := .int .i64 _) rfl) ?_
    first | refine lw_val rfl (run_move (v := .slice _ _ _) rfl) ?_
    refine lw_val rfl (run_lenS Tryd.underlying27 rfl) ?_
    refine lw_val rfl (run_lss rfl rfl) ?_
    refine lw_nil ?_
    refine cw_if rfl ?_ ?_
    · intro h15
      have g15 := of_decide_eq_true h15
      obtain ⟨xa, hxa⟩ : ∃ xa, la[x]? = some xa := ⟨la[x]'(by omega), List.getElem?_eq_getElem _⟩
      obtain ⟨xb, hxb⟩ : ∃ xb, lb[x]? = some xb := ⟨lb[x]'(by omega), List.getElem?_eq_getElem _⟩
      obtain ⟨b1, o1, rfl, _⟩ := ha.cells' hs (by rw [bytesL_len]; omega)
      obtain ⟨b2, o2, rfl, _⟩ := hb.cells' hs (by rw [bytesL_len]; omega)
      refine cw_skip ?_
      refine cw_seq ?_
      refine cw_block ?_
      refine cw_seq ?_
      refine cw_drawS mixes hs ?_
      intro w tr hK
      replace hs := tr _ hs
      clear tr
      first | refine aw_take 0 rfl (by kernel_rfl) (by kernel_rfl) (by kernel_rfl) rfl (fun w hs => run_move (v := .slice _ _ _) rfl) hK ?_
      first | refine aw_take 1 rfl (by kernel_rfl) (by kernel_rfl) (by kernel_rfl) rfl (fun w hs => run_move (v := .int .i64 _) rfl) hK ?_
      refine aw_take 2 rfl (by kernel_rfl) (by kernel_rfl) (by kernel_rfl) rfl (fun w hs => run_indexAddr Tryd.underlying27 sz5 rfl rfl rfl (by omega) rfl) hK ?_
      refine aw_take 3 rfl (by kernel_rfl) (by kernel_rfl) (by kernel_rfl) rfl (fun w hs => run_load Tryd.underlying5 rfl rfl (ha.cellAt hs (bytesL_at hxa))) hK ?_
      first | refine aw_take 4 rfl (by kernel_rfl) (by kernel_rfl) (by kernel_rfl) rfl (fun w hs => run_move (v := .slice _ _ _) rfl) hK ?_
      first | refine aw_take 5 rfl (by kernel_rfl) (by kernel_rfl) (by kernel_rfl) rfl (fun w hs => run_move (v := .int .i64 _) rfl) hK ?_
      refine aw_take 6 rfl (by kernel_rfl) (by kernel_rfl) (by kernel_rfl) rfl (fun w hs => run_indexAddr Tryd.underlying27 sz5 rfl rfl rfl (by omega) rfl) hK ?_
      refine aw_take 7 rfl (by kernel_rfl) (by kernel_rfl) (by kernel_rfl) rfl (fun w hs => run_load Tryd.underlying5 rfl rfl (hb.cellAt hs (bytesL_at hxb))) hK ?_
      refine aw_take 8 rfl (by kernel_rfl) (by kernel_rfl) (by kernel_rfl) rfl (fun w hs => run_eqi rfl rfl) hK ?_
      first | refine aw_take 9 rfl (by kernel_rfl) (by kernel_rfl) (by kernel_rfl) rfl (fun w hs => run_assign (v := .bool _) rfl) hK ?_
      refine aw_done (by kernel_rfl) ?_
      clear hK
      refine cw_seq ?_
      refine cw_region ?_
      first | refine lw_val rfl (run_move (v := .bool _) rfl) ?_
      refine lw_val rfl (run_not rfl) ?_
      refine lw_nil ?_
      refine cw_if rfl ?_ ?_
      · intro h26
        replace h26 := not_b h26
        have g26 := of_decide_eq_false h26
        refine cw_seq ?_
        refine cw_region ?_
        first | refine lw_val rfl (run_assign (v := .bool _) rfl) ?_
        refine lw_nil ?_
        refine cw_ret ?_
        refine res1 (v := .bool _) rfl rfl ?_
        exact ⟨_, rfl, ret_b (by rw [decide_eq_false (fun e => by subst e; rw [hxa] at hxb; cases hxb; exact g26 rfl)]), hs⟩
      · intro h26
        replace h26 := not_c h26
        have g26 := of_decide_eq_true h26
        refine cw_skip ?_
        refine cw_region ?_
        first | refine lw_val rfl (run_move (v := .int .i64 _) rfl) ?_
        refine lw_val rfl (run_add64 rfl rfl rfl (inI (by omega) (by omega))) ?_
        first | refine lw_val rfl (run_assign (v := .int .i64 _) rfl) ?_
        refine lw_nil ?_
        exact ⟨x + 1, by omega, ⟨by omega, by rw [List.take_add_one, List.take_add_one, hxa, hxb, hq, u8v_inj g26], hs⟩, ⟨rfl, trivial⟩, by repeat (first | exact Out.mix _ _ _ | refine Out.updo rfl ?_ | refine Out.upd rfl ?_)⟩
    · intro h15
      have g15 := of_decide_eq_false h15
      refine cw_exit rfl ?_
      refine cw_seq ?_
      refine cw_region ?_
      first | refine lw_val rfl (run_assign (v := .bool _) rfl) ?_
      refine lw_nil ?_
      refine cw_ret ?_
      refine res1 (v := .bool _) rfl rfl ?_
      have h1 : x = la.length := by omega
      rw [h1, List.take_of_length_le (Nat.le_refl _), List.take_of_length_le (by omega)] at hq
      exact ⟨_, rfl, ret_b (decide_eq_true hq).symm, hs⟩

theorem first11_sl (hE : ErrA ad g) (hs : Mem g w L) : Calls Tryd.prog 20 #[] w (Ret fun v w' => v = .bool true ∧ Mem g w' L) := hs.calls (first11_any (hE.atW hs) hs.size)
theorem run_ok {st : St} (h : st.script = []) (good : St → Nat × St) : st.run good = good { st with calls := st.calls + 1 } := by
  have h1 : st.next = 0 := by simp [St.next, h]
  have h2 : st.begin = { st with calls := st.calls + 1 } := by simp [St.begin, St.next, h]
  simp [St.run, h1, h2]
theorem head_ok {st : St} (h : st.script = []) (n : ByteArray) : st.headR n = match aget st.objs n with | some b => ((b.length : Int), ((crcMore 0 b : Nat) : Int), 0, { st with calls := st.calls + 1 }) | none => (0, 0, 107, { st with calls := st.calls + 1 }) := by
  have h1 : st.next = 0 := by simp [St.next, h]
  have h2 : st.begin = { st with calls := st.calls + 1 } := by simp [St.begin, St.next, h]
  cases ho : aget st.objs n <;> simp [St.headR, h1, h2, St.head1, ho]
theorem get_ok {st : St} (h : st.script = []) (n : ByteArray) (off m : Int) : st.getR n off m = ((st.get1 n off m).2, (st.get1 n off m).1, { st with calls := st.calls + 1 }) := by
  have h1 : st.next = 0 := by simp [St.next, h]
  have h2 : st.begin = { st with calls := st.calls + 1 } := by simp [St.begin, St.next, h]
  unfold St.getR
  rw [if_neg (by omega), h2]
  rfl
def nX : ByteArray := ⟨#[120]⟩
def nY : ByteArray := ⟨#[121]⟩
theorem nX_valid : validB nX.data.toList = true := by decide +kernel
theorem nYX : nX ≠ nY := by decide +kernel
/-- The store with one object, behind k calls. -/
def oneSt (n : ByteArray) (l : List UInt8) (k : Nat) : St := { objs := [(n, l)], ups := [], ids := 0, script := [], calls := k, failed := 0 }
theorem oneSt_small (n : ByteArray) {l : List UInt8} (h : l.length ≤ 1000) (k : Nat) : (oneSt n l k).small := ⟨fun m b hm => by simp [oneSt] at hm; rw [hm.2]; omega, fun i u h => by simp [oneSt] at h⟩
theorem put_first {n : ByteArray} (h : validB n.data.toList = true) (l : List UInt8) : St.empty.run (St.put1 n l) = (0, oneSt n l 1) := by
  rw [run_ok rfl]; simp [St.put1, h, St.empty, oneSt, aput]
theorem aget_one (n : ByteArray) (l : List UInt8) (k : Nat) : aget (oneSt n l k).objs n = some l := by simp [oneSt, aget]
theorem aget_two {n m : ByteArray} (h : n ≠ m) (l : List UInt8) (k : Nat) : aget (oneSt n l k).objs m = none := by simp [oneSt, aget, h]

theorem head_one (n : ByteArray) (l : List UInt8) (k : Nat) : (oneSt n l k).headR n = ((l.length : Int), ((crcMore 0 l : Nat) : Int), 0, oneSt n l (k + 1)) := by rw [head_ok rfl, aget_one]; rfl
theorem head_two {n m : ByteArray} (h : n ≠ m) (l : List UInt8) (k : Nat) : (oneSt n l k).headR m = (0, 0, 107, oneSt n l (k + 1)) := by rw [head_ok rfl, aget_two h]; rfl
theorem get_two {n m : ByteArray} (h : n ≠ m) (l : List UInt8) (k : Nat) (i j : Int) : (oneSt n l k).getR m i j = ([], 107, oneSt n l (k + 1)) := by rw [get_ok rfl]; simp only [St.get1, aget_two h]; rfl
theorem get_all (n : ByteArray) (l : List UInt8) (k : Nat) : (oneSt n l k).getR n 0 (l.length : Nat) = (l, 0, oneSt n l (k + 1)) := by
  rw [get_ok rfl]; simp only [St.get1, aget_one]; rw [if_neg (by omega)]; simp; rfl
set_option maxHeartbeats 2000000 in
set_option maxRecDepth 10000 in
theorem storeRanges_sl (hA : ErrA ad g) (hs : Mem g w []) {a : Option Addr} {n c : Nat} {l : List UInt8} {off q : Int} (hb : Came g (.slice a n c) (bytesL l)) (hn : n = l.length) (hoff : InI64 off) (hq : InI64 q) :
    Calls Tryd.prog 7 #[.slice a n c, .int .i64 off, .int .i64 q] w (Ret fun v w' => v = .bool true ∧ Mem g w' []) := by
  have hE := hA.core
  subst hn
  obtain ⟨ho1, ho2⟩ := hoff
  obtain ⟨hq1, hq2⟩ := hq
  obtain ⟨out, code, hg, hbad, hgood⟩ : ∃ out code, (oneSt nX l 1).getR nX off q = (out, code, oneSt nX l 2) ∧ ((off < 0 ∨ q < 0 ∨ (l.length : Int) < off ∨ (l.length : Int) - off < q) → out = [] ∧ code = 105) ∧
      (¬ (off < 0 ∨ q < 0 ∨ (l.length : Int) < off ∨ (l.length : Int) - off < q) → out = (l.take (off.toNat + q.toNat)).drop off.toNat ∧ code = 0) := by
    refine ⟨_, _, by rw [get_ok rfl]; rfl, fun h => ?_, fun h => ?_⟩
    · simp only [St.get1, aget_one]; rw [if_pos h]; exact ⟨rfl, rfl⟩
    · simp only [St.get1, aget_one]; rw [if_neg h]; exact ⟨rfl, rfl⟩
  refine calls_cw Tryd.func7 rfl rfl ?_
  skip
  refine cw_seq ?_
  refine cw_region ?_
  first | refine lw_val rfl (run_assign (v := .bool _) rfl) ?_
  refine lw_nil ?_
  refine cw_seq ?_
  refine cw_region ?_
  refine lw_call rfl en20 (first11_sl hA hs) ?_
  clear hs
  rintro _ w ⟨rfl, hs⟩
  first | refine lw_val rfl (run_assign (v := .bool _) rfl) ?_
  refine lw_nil ?_
  refine cw_seq ?_
  refine cw_seq ?_
  refine cw_region ?_
  first | refine lw_val rfl (run_move (v := .bool _) rfl) ?_
  refine lw_val rfl (run_not rfl) ?_
  refine lw_nil ?_
  refine cw_iff rfl (not_f (rfl)) ?_
  refine cw_skip ?_
  refine cw_seq ?_
  refine cw_seq ?_
  refine cw_region ?_
  first | refine lw_val rfl (run_move (v := .slice _ _ _) rfl) ?_
  refine lw_val rfl (run_lenS Tryd.underlying27 rfl) ?_
  refine lw_val rfl (run_gtr rfl rfl) ?_
  first | refine lw_val rfl (run_move (v := .bool _) rfl) ?_
  refine lw_split (t := _) (d := 29) rfl ?_ ?_
  · intro h28
    have g28 := of_decide_eq_true h28
    refine lw_off rfl rfl rfl h28 ?_
    refine lw_off rfl rfl rfl h28 ?_
    first | refine lw_val rfl (run_pickT (v := .bool _) rfl h28 rfl) ?_
    refine lw_nil ?_
    refine cw_ift rfl rfl ?_
    refine cw_seq ?_
    refine cw_region ?_
    first | refine lw_val rfl (run_move (v := .bool _) rfl) ?_
    first | refine lw_val rfl (run_assign (v := .bool _) rfl) ?_
    refine lw_nil ?_
    refine cw_ret ?_
    refine res1 (v := .bool _) rfl rfl ?_
    exact ⟨_, rfl, rfl, hs.nil⟩
  · intro h28
    have g28 := of_decide_eq_false h28
    have hsm := fun k => oneSt_small nX (l := l) (by omega) k
    refine lw_on rfl rfl h28 ?_
    first | refine lw_val rfl (run_move (v := .bool _) rfl) ?_
    refine lw_on rfl rfl h28 ?_
    refine lw_val rfl (run_not rfl) ?_
    first | refine lw_val rfl (run_pickF (v := .bool _) rfl h28 rfl) ?_
    refine lw_nil ?_
    refine cw_iff rfl (not_f (rfl)) ?_
    refine cw_skip ?_
    refine cw_seq ?_
    refine cw_region ?_
    refine lw_call rfl en21 (new_sl hs) ?_
    clear hs
    rintro _ w ⟨p, rfl, hs⟩
    first | refine lw_val rfl (run_assign (v := .pointer (some _)) rfl) ?_ | refine lw_val rfl (run_assign (v := .pointer none) rfl) ?_
    refine lw_nil ?_
    refine cw_seq ?_
    refine cw_seq ?_
    refine cw_region ?_
    first | refine lw_val rfl (run_move (v := .pointer (some _)) rfl) ?_ | refine lw_val rfl (run_move (v := .pointer none) rfl) ?_
    refine lw_val rfl (run_eqpn Tryd.underlying24 rfl rfl) ?_
    first | refine lw_val rfl (run_move (v := .bool _) rfl) ?_
    refine lw_on rfl rfl rfl ?_
    first | refine lw_val rfl (run_move (v := .pointer (some _)) rfl) ?_ | refine lw_val rfl (run_move (v := .pointer none) rfl) ?_
    refine lw_on rfl rfl rfl ?_
    first | refine lw_val rfl (run_move (v := .slice _ _ _) rfl) ?_
    refine lw_on rfl rfl rfl ?_
    refine lw_call rfl en23 (put_sl (n := nX) hE hs (by decide) (by decide) (hb.rd _) (by omega) (put_first nX_valid l)) ?_
    clear hs
    rintro _ w ⟨rfl, hs⟩
    refine lw_on rfl rfl rfl ?_
    first | refine lw_val rfl (run_neerrn (ad := ad) rfl) ?_ | refine lw_val rfl (run_nenn rfl) ?_
    first | refine lw_val rfl (run_pickF (v := .bool _) rfl rfl rfl) ?_
    refine lw_nil ?_
    refine cw_iff rfl (not_f (decide_eq_true rfl)) ?_
    refine cw_skip ?_
    refine cw_seq ?_
    refine cw_region ?_
    first | refine lw_val rfl (run_move (v := .pointer (some _)) rfl) ?_ | refine lw_val rfl (run_move (v := .pointer none) rfl) ?_
    first | refine lw_val rfl (run_move (v := .int .i64 _) rfl) ?_
    first | refine lw_val rfl (run_move (v := .int .i64 _) rfl) ?_
    refine lw_call rfl en39 (get_sl hE (hsm _) hs (by simp [oneSt]) (by simp [oneSt]) nX ⟨ho1, ho2⟩ ⟨hq1, hq2⟩ hg) ?_
    clear hs
    rintro _ w ⟨a47, c47, rfl, hs⟩
    first | refine lw_val rfl (run_move (v := .tuple _) rfl) ?_
    first | refine lw_val rfl (run_extract (v := .slice _ _ _) rfl rfl) ?_
    first | refine lw_val rfl (run_extract (v := errV ad _) rfl rfl) ?_ | refine lw_val rfl (run_extract (v := .nilIface) rfl rfl) ?_
    first | refine lw_val rfl (run_assign (v := .slice _ _ _) rfl) ?_
    first | refine lw_val rfl (run_assign (v := errV ad _) rfl) ?_ | refine lw_val rfl (run_assign (v := .nilIface) rfl) ?_
    refine lw_nil ?_
    refine cw_seq ?_
    refine cw_seq ?_
    refine cw_region ?_
    first | refine lw_val rfl (run_move (v := .int .i64 _) rfl) ?_
    refine lw_val rfl (run_lss rfl rfl) ?_
    first | refine lw_val rfl (run_move (v := .bool _) rfl) ?_
    refine lw_split (t := _) (d := 52) rfl ?_ ?_
    · intro h51
      have g51 := of_decide_eq_true h51
      obtain ⟨rfl, rfl⟩ := hbad (by omega)
      refine lw_off rfl rfl rfl h51 ?_
      refine lw_off rfl rfl rfl h51 ?_
      first | refine lw_val rfl (run_pickT (v := .bool _) rfl h51 rfl) ?_
      first | refine lw_val rfl (run_move (v := .bool _) rfl) ?_
      refine lw_off rfl rfl rfl rfl ?_
      refine lw_off rfl rfl rfl rfl ?_
      refine lw_off rfl rfl rfl rfl ?_
      refine lw_off rfl rfl rfl rfl ?_
      first | refine lw_val rfl (run_pickT (v := .bool _) rfl rfl rfl) ?_
      first | refine lw_val rfl (run_move (v := .bool _) rfl) ?_
      refine lw_off rfl rfl rfl rfl ?_
      refine lw_off rfl rfl rfl rfl ?_
      refine lw_off rfl rfl rfl rfl ?_
      refine lw_off rfl rfl rfl rfl ?_
      refine lw_off rfl rfl rfl rfl ?_
      refine lw_off rfl rfl rfl rfl ?_
      first | refine lw_val rfl (run_pickT (v := .bool _) rfl rfl rfl) ?_
      refine lw_nil ?_
      refine cw_ift rfl rfl ?_
      refine cw_seq ?_
      refine cw_region ?_
      first | refine lw_val rfl (run_move (v := errV ad _) rfl) ?_ | refine lw_val rfl (run_move (v := .nilIface) rfl) ?_
      refine lw_call rfl en25 (is_sl hA hs (d := 105) (.inr (by decide)) _) ?_
      clear hs
      rintro _ w ⟨rfl, hs⟩
      refine lw_val rfl (run_not rfl) ?_
      first | refine lw_val rfl (run_move (v := .bool _) rfl) ?_
      refine lw_on rfl rfl (not_f (decide_eq_true rfl)) ?_
      first | refine lw_val rfl (run_move (v := .slice _ _ _) rfl) ?_
      refine lw_on rfl rfl (not_f (decide_eq_true rfl)) ?_
      refine lw_val rfl (run_lenS Tryd.underlying27 rfl) ?_
      refine lw_on rfl rfl (not_f (decide_eq_true rfl)) ?_
      refine lw_val rfl (run_nei rfl rfl) ?_
      first | refine lw_val rfl (run_pickF (v := .bool _) rfl (not_f (decide_eq_true rfl)) rfl) ?_
      refine lw_nil ?_
      refine cw_iff rfl (not_f (decide_eq_true rfl)) ?_
      refine cw_skip ?_
      refine cw_seq ?_
      refine cw_region ?_
      first | refine lw_val rfl (run_move (v := .pointer (some _)) rfl) ?_ | refine lw_val rfl (run_move (v := .pointer none) rfl) ?_
      refine lw_call rfl en40 (head_sl hE (hsm _) (hs.pick 1 rfl) (by simp [oneSt]) (by simp [oneSt]) nX (head_one nX l 2)) ?_
      clear hs
      rintro _ w ⟨rfl, hs⟩
      first | refine lw_val rfl (run_move (v := .tuple _) rfl) ?_
      first | refine lw_val rfl (run_extract (v := .int .i64 _) rfl rfl) ?_
      first | refine lw_val rfl (run_extract (v := .int .u32 _) rfl rfl) ?_
      first | refine lw_val rfl (run_extract (v := errV ad _) rfl rfl) ?_ | refine lw_val rfl (run_extract (v := .nilIface) rfl rfl) ?_
      first | refine lw_val rfl (run_assign (v := .int .i64 _) rfl) ?_
      first | refine lw_val rfl (run_assign (v := .int .u32 _) rfl) ?_
      first | refine lw_val rfl (run_assign (v := errV ad _) rfl) ?_ | refine lw_val rfl (run_assign (v := .nilIface) rfl) ?_
      refine lw_nil ?_
      refine cw_seq ?_
      refine cw_region ?_
      first | refine lw_val rfl (run_move (v := .pointer (some _)) rfl) ?_ | refine lw_val rfl (run_move (v := .pointer none) rfl) ?_
      refine lw_call rfl en40 (head_sl hE (hsm _) hs (by simp [oneSt]) (by simp [oneSt]) nY (head_two nYX l 3)) ?_
      clear hs
      rintro _ w ⟨rfl, hs⟩
      first | refine lw_val rfl (run_move (v := .tuple _) rfl) ?_
      first | refine lw_val rfl (run_extract (v := .int .i64 _) rfl rfl) ?_
      first | refine lw_val rfl (run_extract (v := .int .u32 _) rfl rfl) ?_
      first | refine lw_val rfl (run_extract (v := errV ad _) rfl rfl) ?_ | refine lw_val rfl (run_extract (v := .nilIface) rfl rfl) ?_
      first | refine lw_val rfl (run_assign (v := .int .i64 _) rfl) ?_
      first | refine lw_val rfl (run_assign (v := .int .u32 _) rfl) ?_
      first | refine lw_val rfl (run_assign (v := errV ad _) rfl) ?_ | refine lw_val rfl (run_assign (v := .nilIface) rfl) ?_
      refine lw_nil ?_
      refine cw_seq ?_
      refine cw_region ?_
      first | refine lw_val rfl (run_move (v := .pointer (some _)) rfl) ?_ | refine lw_val rfl (run_move (v := .pointer none) rfl) ?_
      refine lw_call rfl en39 (get_sl hE (hsm _) hs (by simp [oneSt]) (by simp [oneSt]) nY (inI (by decide) (by decide)) (inI (by decide) (by decide)) (get_two nYX l 4 0 0)) ?_
      clear hs
      rintro _ w ⟨a105, c105, rfl, hs⟩
      first | refine lw_val rfl (run_move (v := .tuple _) rfl) ?_
      first | refine lw_val rfl (run_extract (v := .slice _ _ _) rfl rfl) ?_
      first | refine lw_val rfl (run_extract (v := errV ad _) rfl rfl) ?_ | refine lw_val rfl (run_extract (v := .nilIface) rfl rfl) ?_
      first | refine lw_val rfl (run_assign (v := .slice _ _ _) rfl) ?_
      first | refine lw_val rfl (run_assign (v := errV ad _) rfl) ?_ | refine lw_val rfl (run_assign (v := .nilIface) rfl) ?_
      refine lw_nil ?_
      refine cw_seq ?_
      refine cw_region ?_
      first | refine lw_val rfl (run_move (v := .pointer (some _)) rfl) ?_ | refine lw_val rfl (run_move (v := .pointer none) rfl) ?_
      first | refine lw_val rfl (run_move (v := .slice _ _ _) rfl) ?_
      refine lw_val rfl (run_lenS Tryd.underlying27 rfl) ?_
      refine lw_call rfl en39 (get_sl hE (hsm _) (hs.pick 1 rfl) (by simp [oneSt]) (by simp [oneSt]) nX (inI (by decide) (by decide)) (inI (by omega) (by omega)) (get_all nX l 5)) ?_
      clear hs
      rintro _ w ⟨a112, c112, rfl, hs⟩
      first | refine lw_val rfl (run_move (v := .tuple _) rfl) ?_
      first | refine lw_val rfl (run_extract (v := .slice _ _ _) rfl rfl) ?_
      first | refine lw_val rfl (run_extract (v := errV ad _) rfl rfl) ?_ | refine lw_val rfl (run_extract (v := .nilIface) rfl rfl) ?_
      first | refine lw_val rfl (run_assign (v := .slice _ _ _) rfl) ?_
      first | refine lw_val rfl (run_assign (v := errV ad _) rfl) ?_ | refine lw_val rfl (run_assign (v := .nilIface) rfl) ?_
      refine lw_nil ?_
      refine cw_seq ?_
      refine cw_seq ?_
      refine cw_region ?_
      first | refine lw_val rfl (run_move (v := .slice _ _ _) rfl) ?_
      refine lw_val rfl (run_lenS Tryd.underlying27 rfl) ?_
      refine lw_val rfl (run_gtr rfl rfl) ?_
      refine lw_nil ?_
      refine cw_if rfl ?_ ?_
      · intro h117
        have g117 := of_decide_eq_true h117
        obtain ⟨x0, hx0⟩ : ∃ x0, l[0]? = some x0 := ⟨l[0]'(by omega), List.getElem?_eq_getElem _⟩
        obtain ⟨b0, o0, rfl, hcell⟩ := hs.ownCells 0 rfl (by rw [bytesL_len]; omega)
        refine cw_region ?_
        first | refine lw_val rfl (run_move (v := .slice _ _ _) rfl) ?_
        refine lw_val rfl (run_indexAddr Tryd.underlying27 sz5 rfl rfl (i := 0) rfl (by omega) rfl) ?_
        refine lw_val rfl (run_load Tryd.underlying5 rfl rfl (hcell 0 _ (bytesL_at hx0))) ?_
        refine lw_val rfl (run_bits (by simp) rfl rfl rfl) ?_
        refine lw_val rfl (run_indexAddr Tryd.underlying27 sz5 rfl rfl (i := 0) rfl (by omega) rfl) ?_
        refine lw_storeOwn (j := 0) (v := .int .u8 _) hs 0 rfl sz5 rfl rfl (by rw [bytesL_len]; omega) rfl rfl ?_
        clear hs
        intro w hs
        simp only [List.set_cons_zero] at hs
        refine lw_nil ?_
        refine cw_seq ?_
        refine cw_region ?_
        first | refine lw_val rfl (run_move (v := .pointer (some _)) rfl) ?_ | refine lw_val rfl (run_move (v := .pointer none) rfl) ?_
        refine lw_call rfl en24 (bytes_sl (hs.pick 1 rfl) (hsm _) nX (aget_one nX l 6)) ?_
        clear hs
        rintro _ w ⟨a125, c125, rfl, hs⟩
        first | refine lw_val rfl (run_move (v := .tuple _) rfl) ?_
        first | refine lw_val rfl (run_extract (v := .slice _ _ _) rfl rfl) ?_
        first | refine lw_val rfl (run_extract (v := .bool _) rfl rfl) ?_
        first | refine lw_val rfl (run_assign (v := .slice _ _ _) rfl) ?_
        first | refine lw_val rfl (run_assign (v := .bool _) rfl) ?_
        refine lw_nil ?_
        refine cw_seq ?_
        refine cw_region ?_
        first | refine lw_val rfl (run_move (v := errV ad _) rfl) ?_ | refine lw_val rfl (run_move (v := .nilIface) rfl) ?_
        first | refine lw_val rfl (run_eqerrn (ad := ad) rfl) ?_ | refine lw_val rfl (run_eqnn rfl) ?_
        first | refine lw_val rfl (run_move (v := .bool _) rfl) ?_
        refine lw_on rfl rfl (decide_eq_true rfl) ?_
        first | refine lw_val rfl (run_move (v := .int .i64 _) rfl) ?_
        refine lw_on rfl rfl (decide_eq_true rfl) ?_
        first | refine lw_val rfl (run_move (v := .slice _ _ _) rfl) ?_
        refine lw_on rfl rfl (decide_eq_true rfl) ?_
        refine lw_val rfl (run_lenS Tryd.underlying27 rfl) ?_
        refine lw_on rfl rfl (decide_eq_true rfl) ?_
        refine lw_val rfl (run_eqi rfl rfl) ?_
        first | refine lw_val rfl (run_pickT (v := .bool _) rfl (decide_eq_true rfl) rfl) ?_
        first | refine lw_val rfl (run_move (v := .bool _) rfl) ?_
        refine lw_on rfl rfl (decide_eq_true rfl) ?_
        first | refine lw_val rfl (run_move (v := errV ad _) rfl) ?_ | refine lw_val rfl (run_move (v := .nilIface) rfl) ?_
        refine lw_on rfl rfl (decide_eq_true rfl) ?_
        refine lw_call rfl en25 (is_sl hA hs (d := 107) (.inr (by decide)) _) ?_
        clear hs
        rintro _ w ⟨rfl, hs⟩
        first | refine lw_val rfl (run_pickT (v := .bool _) rfl (decide_eq_true rfl) rfl) ?_
        first | refine lw_val rfl (run_move (v := .bool _) rfl) ?_
        refine lw_on rfl rfl (decide_eq_true rfl) ?_
        first | refine lw_val rfl (run_move (v := errV ad _) rfl) ?_ | refine lw_val rfl (run_move (v := .nilIface) rfl) ?_
        refine lw_on rfl rfl (decide_eq_true rfl) ?_
        refine lw_call rfl en25 (is_sl hA hs (d := 107) (.inr (by decide)) _) ?_
        clear hs
        rintro _ w ⟨rfl, hs⟩
        first | refine lw_val rfl (run_pickT (v := .bool _) rfl (decide_eq_true rfl) rfl) ?_
        first | refine lw_val rfl (run_move (v := .bool _) rfl) ?_
        refine lw_on rfl rfl (decide_eq_true rfl) ?_
        first | refine lw_val rfl (run_move (v := errV ad _) rfl) ?_ | refine lw_val rfl (run_move (v := .nilIface) rfl) ?_
        refine lw_on rfl rfl (decide_eq_true rfl) ?_
        first | refine lw_val rfl (run_eqerrn (ad := ad) rfl) ?_ | refine lw_val rfl (run_eqnn rfl) ?_
        first | refine lw_val rfl (run_pickT (v := .bool _) rfl (decide_eq_true rfl) rfl) ?_
        first | refine lw_val rfl (run_move (v := .bool _) rfl) ?_
        refine lw_on rfl rfl (decide_eq_true rfl) ?_
        first | refine lw_val rfl (run_move (v := .bool _) rfl) ?_
        first | refine lw_val rfl (run_pickT (v := .bool _) rfl (decide_eq_true rfl) rfl) ?_
        first | refine lw_val rfl (run_move (v := .bool _) rfl) ?_
        refine lw_on rfl rfl (rfl) ?_
        first | refine lw_val rfl (run_move (v := .slice _ _ _) rfl) ?_
        refine lw_on rfl rfl (rfl) ?_
        first | refine lw_val rfl (run_move (v := .slice _ _ _) rfl) ?_
        refine lw_on rfl rfl (rfl) ?_
        refine lw_call rfl en38 (sameB_sl (la := l) (lb := l) hs (Rd.own 0 rfl) (hb.rd _) rfl rfl (by omega)) ?_
        clear hs
        rintro _ w ⟨rfl, hs⟩
        first | refine lw_val rfl (run_pickT (v := .bool _) rfl (rfl) rfl) ?_
        first | refine lw_val rfl (run_assign (v := .bool _) rfl) ?_
        refine lw_nil ?_
        refine cw_ret ?_
        refine res1 (v := .bool _) rfl rfl ?_
        exact ⟨_, rfl, ret_b (decide_eq_true rfl), hs.nil⟩
      · intro h117
        have g117 := of_decide_eq_false h117
        refine cw_skip ?_
        refine cw_seq ?_
        refine cw_region ?_
        first | refine lw_val rfl (run_move (v := .pointer (some _)) rfl) ?_ | refine lw_val rfl (run_move (v := .pointer none) rfl) ?_
        refine lw_call rfl en24 (bytes_sl (hs.pick 1 rfl) (hsm _) nX (aget_one nX l 6)) ?_
        clear hs
        rintro _ w ⟨a125, c125, rfl, hs⟩
        first | refine lw_val rfl (run_move (v := .tuple _) rfl) ?_
        first | refine lw_val rfl (run_extract (v := .slice _ _ _) rfl rfl) ?_
        first | refine lw_val rfl (run_extract (v := .bool _) rfl rfl) ?_
        first | refine lw_val rfl (run_assign (v := .slice _ _ _) rfl) ?_
        first | refine lw_val rfl (run_assign (v := .bool _) rfl) ?_
        refine lw_nil ?_
        refine cw_seq ?_
        refine cw_region ?_
        first | refine lw_val rfl (run_move (v := errV ad _) rfl) ?_ | refine lw_val rfl (run_move (v := .nilIface) rfl) ?_
        first | refine lw_val rfl (run_eqerrn (ad := ad) rfl) ?_ | refine lw_val rfl (run_eqnn rfl) ?_
        first | refine lw_val rfl (run_move (v := .bool _) rfl) ?_
        refine lw_on rfl rfl (decide_eq_true rfl) ?_
        first | refine lw_val rfl (run_move (v := .int .i64 _) rfl) ?_
        refine lw_on rfl rfl (decide_eq_true rfl) ?_
        first | refine lw_val rfl (run_move (v := .slice _ _ _) rfl) ?_
        refine lw_on rfl rfl (decide_eq_true rfl) ?_
        refine lw_val rfl (run_lenS Tryd.underlying27 rfl) ?_
        refine lw_on rfl rfl (decide_eq_true rfl) ?_
        refine lw_val rfl (run_eqi rfl rfl) ?_
        first | refine lw_val rfl (run_pickT (v := .bool _) rfl (decide_eq_true rfl) rfl) ?_
        first | refine lw_val rfl (run_move (v := .bool _) rfl) ?_
        refine lw_on rfl rfl (decide_eq_true rfl) ?_
        first | refine lw_val rfl (run_move (v := errV ad _) rfl) ?_ | refine lw_val rfl (run_move (v := .nilIface) rfl) ?_
        refine lw_on rfl rfl (decide_eq_true rfl) ?_
        refine lw_call rfl en25 (is_sl hA hs (d := 107) (.inr (by decide)) _) ?_
        clear hs
        rintro _ w ⟨rfl, hs⟩
        first | refine lw_val rfl (run_pickT (v := .bool _) rfl (decide_eq_true rfl) rfl) ?_
        first | refine lw_val rfl (run_move (v := .bool _) rfl) ?_
        refine lw_on rfl rfl (decide_eq_true rfl) ?_
        first | refine lw_val rfl (run_move (v := errV ad _) rfl) ?_ | refine lw_val rfl (run_move (v := .nilIface) rfl) ?_
        refine lw_on rfl rfl (decide_eq_true rfl) ?_
        refine lw_call rfl en25 (is_sl hA hs (d := 107) (.inr (by decide)) _) ?_
        clear hs
        rintro _ w ⟨rfl, hs⟩
        first | refine lw_val rfl (run_pickT (v := .bool _) rfl (decide_eq_true rfl) rfl) ?_
        first | refine lw_val rfl (run_move (v := .bool _) rfl) ?_
        refine lw_on rfl rfl (decide_eq_true rfl) ?_
        first | refine lw_val rfl (run_move (v := errV ad _) rfl) ?_ | refine lw_val rfl (run_move (v := .nilIface) rfl) ?_
        refine lw_on rfl rfl (decide_eq_true rfl) ?_
        first | refine lw_val rfl (run_eqerrn (ad := ad) rfl) ?_ | refine lw_val rfl (run_eqnn rfl) ?_
        first | refine lw_val rfl (run_pickT (v := .bool _) rfl (decide_eq_true rfl) rfl) ?_
        first | refine lw_val rfl (run_move (v := .bool _) rfl) ?_
        refine lw_on rfl rfl (decide_eq_true rfl) ?_
        first | refine lw_val rfl (run_move (v := .bool _) rfl) ?_
        first | refine lw_val rfl (run_pickT (v := .bool _) rfl (decide_eq_true rfl) rfl) ?_
        first | refine lw_val rfl (run_move (v := .bool _) rfl) ?_
        refine lw_on rfl rfl (rfl) ?_
        first | refine lw_val rfl (run_move (v := .slice _ _ _) rfl) ?_
        refine lw_on rfl rfl (rfl) ?_
        first | refine lw_val rfl (run_move (v := .slice _ _ _) rfl) ?_
        refine lw_on rfl rfl (rfl) ?_
        refine lw_call rfl en38 (sameB_sl (la := l) (lb := l) hs (Rd.own 0 rfl) (hb.rd _) rfl rfl (by omega)) ?_
        clear hs
        rintro _ w ⟨rfl, hs⟩
        first | refine lw_val rfl (run_pickT (v := .bool _) rfl (rfl) rfl) ?_
        first | refine lw_val rfl (run_assign (v := .bool _) rfl) ?_
        refine lw_nil ?_
        refine cw_ret ?_
        refine res1 (v := .bool _) rfl rfl ?_
        exact ⟨_, rfl, ret_b (decide_eq_true rfl), hs.nil⟩
    · intro h51
      have g51 := of_decide_eq_false h51
      refine lw_on rfl rfl h51 ?_
      first | refine lw_val rfl (run_move (v := .int .i64 _) rfl) ?_
      refine lw_on rfl rfl h51 ?_
      refine lw_val rfl (run_lss rfl rfl) ?_
      first | refine lw_val rfl (run_pickF (v := .bool _) rfl h51 rfl) ?_
      first | refine lw_val rfl (run_move (v := .bool _) rfl) ?_
      refine lw_split (t := _) (d := 56) rfl ?_ ?_
      · intro h54
        have g54 := of_decide_eq_true h54
        obtain ⟨rfl, rfl⟩ := hbad (by omega)
        refine lw_off rfl rfl rfl h54 ?_
        refine lw_off rfl rfl rfl h54 ?_
        refine lw_off rfl rfl rfl h54 ?_
        refine lw_off rfl rfl rfl h54 ?_
        first | refine lw_val rfl (run_pickT (v := .bool _) rfl h54 rfl) ?_
        first | refine lw_val rfl (run_move (v := .bool _) rfl) ?_
        refine lw_off rfl rfl rfl rfl ?_
        refine lw_off rfl rfl rfl rfl ?_
        refine lw_off rfl rfl rfl rfl ?_
        refine lw_off rfl rfl rfl rfl ?_
        refine lw_off rfl rfl rfl rfl ?_
        refine lw_off rfl rfl rfl rfl ?_
        first | refine lw_val rfl (run_pickT (v := .bool _) rfl rfl rfl) ?_
        refine lw_nil ?_
        refine cw_ift rfl rfl ?_
        refine cw_seq ?_
        refine cw_region ?_
        first | refine lw_val rfl (run_move (v := errV ad _) rfl) ?_ | refine lw_val rfl (run_move (v := .nilIface) rfl) ?_
        refine lw_call rfl en25 (is_sl hA hs (d := 105) (.inr (by decide)) _) ?_
        clear hs
        rintro _ w ⟨rfl, hs⟩
        refine lw_val rfl (run_not rfl) ?_
        first | refine lw_val rfl (run_move (v := .bool _) rfl) ?_
        refine lw_on rfl rfl (not_f (decide_eq_true rfl)) ?_
        first | refine lw_val rfl (run_move (v := .slice _ _ _) rfl) ?_
        refine lw_on rfl rfl (not_f (decide_eq_true rfl)) ?_
        refine lw_val rfl (run_lenS Tryd.underlying27 rfl) ?_
        refine lw_on rfl rfl (not_f (decide_eq_true rfl)) ?_
        refine lw_val rfl (run_nei rfl rfl) ?_
        first | refine lw_val rfl (run_pickF (v := .bool _) rfl (not_f (decide_eq_true rfl)) rfl) ?_
        refine lw_nil ?_
        refine cw_iff rfl (not_f (decide_eq_true rfl)) ?_
        refine cw_skip ?_
        refine cw_seq ?_
        refine cw_region ?_
        first | refine lw_val rfl (run_move (v := .pointer (some _)) rfl) ?_ | refine lw_val rfl (run_move (v := .pointer none) rfl) ?_
        refine lw_call rfl en40 (head_sl hE (hsm _) (hs.pick 1 rfl) (by simp [oneSt]) (by simp [oneSt]) nX (head_one nX l 2)) ?_
        clear hs
        rintro _ w ⟨rfl, hs⟩
        first | refine lw_val rfl (run_move (v := .tuple _) rfl) ?_
        first | refine lw_val rfl (run_extract (v := .int .i64 _) rfl rfl) ?_
        first | refine lw_val rfl (run_extract (v := .int .u32 _) rfl rfl) ?_
        first | refine lw_val rfl (run_extract (v := errV ad _) rfl rfl) ?_ | refine lw_val rfl (run_extract (v := .nilIface) rfl rfl) ?_
        first | refine lw_val rfl (run_assign (v := .int .i64 _) rfl) ?_
        first | refine lw_val rfl (run_assign (v := .int .u32 _) rfl) ?_
        first | refine lw_val rfl (run_assign (v := errV ad _) rfl) ?_ | refine lw_val rfl (run_assign (v := .nilIface) rfl) ?_
        refine lw_nil ?_
        refine cw_seq ?_
        refine cw_region ?_
        first | refine lw_val rfl (run_move (v := .pointer (some _)) rfl) ?_ | refine lw_val rfl (run_move (v := .pointer none) rfl) ?_
        refine lw_call rfl en40 (head_sl hE (hsm _) hs (by simp [oneSt]) (by simp [oneSt]) nY (head_two nYX l 3)) ?_
        clear hs
        rintro _ w ⟨rfl, hs⟩
        first | refine lw_val rfl (run_move (v := .tuple _) rfl) ?_
        first | refine lw_val rfl (run_extract (v := .int .i64 _) rfl rfl) ?_
        first | refine lw_val rfl (run_extract (v := .int .u32 _) rfl rfl) ?_
        first | refine lw_val rfl (run_extract (v := errV ad _) rfl rfl) ?_ | refine lw_val rfl (run_extract (v := .nilIface) rfl rfl) ?_
        first | refine lw_val rfl (run_assign (v := .int .i64 _) rfl) ?_
        first | refine lw_val rfl (run_assign (v := .int .u32 _) rfl) ?_
        first | refine lw_val rfl (run_assign (v := errV ad _) rfl) ?_ | refine lw_val rfl (run_assign (v := .nilIface) rfl) ?_
        refine lw_nil ?_
        refine cw_seq ?_
        refine cw_region ?_
        first | refine lw_val rfl (run_move (v := .pointer (some _)) rfl) ?_ | refine lw_val rfl (run_move (v := .pointer none) rfl) ?_
        refine lw_call rfl en39 (get_sl hE (hsm _) hs (by simp [oneSt]) (by simp [oneSt]) nY (inI (by decide) (by decide)) (inI (by decide) (by decide)) (get_two nYX l 4 0 0)) ?_
        clear hs
        rintro _ w ⟨a105, c105, rfl, hs⟩
        first | refine lw_val rfl (run_move (v := .tuple _) rfl) ?_
        first | refine lw_val rfl (run_extract (v := .slice _ _ _) rfl rfl) ?_
        first | refine lw_val rfl (run_extract (v := errV ad _) rfl rfl) ?_ | refine lw_val rfl (run_extract (v := .nilIface) rfl rfl) ?_
        first | refine lw_val rfl (run_assign (v := .slice _ _ _) rfl) ?_
        first | refine lw_val rfl (run_assign (v := errV ad _) rfl) ?_ | refine lw_val rfl (run_assign (v := .nilIface) rfl) ?_
        refine lw_nil ?_
        refine cw_seq ?_
        refine cw_region ?_
        first | refine lw_val rfl (run_move (v := .pointer (some _)) rfl) ?_ | refine lw_val rfl (run_move (v := .pointer none) rfl) ?_
        first | refine lw_val rfl (run_move (v := .slice _ _ _) rfl) ?_
        refine lw_val rfl (run_lenS Tryd.underlying27 rfl) ?_
        refine lw_call rfl en39 (get_sl hE (hsm _) (hs.pick 1 rfl) (by simp [oneSt]) (by simp [oneSt]) nX (inI (by decide) (by decide)) (inI (by omega) (by omega)) (get_all nX l 5)) ?_
        clear hs
        rintro _ w ⟨a112, c112, rfl, hs⟩
        first | refine lw_val rfl (run_move (v := .tuple _) rfl) ?_
        first | refine lw_val rfl (run_extract (v := .slice _ _ _) rfl rfl) ?_
        first | refine lw_val rfl (run_extract (v := errV ad _) rfl rfl) ?_ | refine lw_val rfl (run_extract (v := .nilIface) rfl rfl) ?_
        first | refine lw_val rfl (run_assign (v := .slice _ _ _) rfl) ?_
        first | refine lw_val rfl (run_assign (v := errV ad _) rfl) ?_ | refine lw_val rfl (run_assign (v := .nilIface) rfl) ?_
        refine lw_nil ?_
        refine cw_seq ?_
        refine cw_seq ?_
        refine cw_region ?_
        first | refine lw_val rfl (run_move (v := .slice _ _ _) rfl) ?_
        refine lw_val rfl (run_lenS Tryd.underlying27 rfl) ?_
        refine lw_val rfl (run_gtr rfl rfl) ?_
        refine lw_nil ?_
        refine cw_if rfl ?_ ?_
        · intro h117
          have g117 := of_decide_eq_true h117
          obtain ⟨x0, hx0⟩ : ∃ x0, l[0]? = some x0 := ⟨l[0]'(by omega), List.getElem?_eq_getElem _⟩
          obtain ⟨b0, o0, rfl, hcell⟩ := hs.ownCells 0 rfl (by rw [bytesL_len]; omega)
          refine cw_region ?_
          first | refine lw_val rfl (run_move (v := .slice _ _ _) rfl) ?_
          refine lw_val rfl (run_indexAddr Tryd.underlying27 sz5 rfl rfl (i := 0) rfl (by omega) rfl) ?_
          refine lw_val rfl (run_load Tryd.underlying5 rfl rfl (hcell 0 _ (bytesL_at hx0))) ?_
          refine lw_val rfl (run_bits (by simp) rfl rfl rfl) ?_
          refine lw_val rfl (run_indexAddr Tryd.underlying27 sz5 rfl rfl (i := 0) rfl (by omega) rfl) ?_
          refine lw_storeOwn (j := 0) (v := .int .u8 _) hs 0 rfl sz5 rfl rfl (by rw [bytesL_len]; omega) rfl rfl ?_
          clear hs
          intro w hs
          simp only [List.set_cons_zero] at hs
          refine lw_nil ?_
          refine cw_seq ?_
          refine cw_region ?_
          first | refine lw_val rfl (run_move (v := .pointer (some _)) rfl) ?_ | refine lw_val rfl (run_move (v := .pointer none) rfl) ?_
          refine lw_call rfl en24 (bytes_sl (hs.pick 1 rfl) (hsm _) nX (aget_one nX l 6)) ?_
          clear hs
          rintro _ w ⟨a125, c125, rfl, hs⟩
          first | refine lw_val rfl (run_move (v := .tuple _) rfl) ?_
          first | refine lw_val rfl (run_extract (v := .slice _ _ _) rfl rfl) ?_
          first | refine lw_val rfl (run_extract (v := .bool _) rfl rfl) ?_
          first | refine lw_val rfl (run_assign (v := .slice _ _ _) rfl) ?_
          first | refine lw_val rfl (run_assign (v := .bool _) rfl) ?_
          refine lw_nil ?_
          refine cw_seq ?_
          refine cw_region ?_
          first | refine lw_val rfl (run_move (v := errV ad _) rfl) ?_ | refine lw_val rfl (run_move (v := .nilIface) rfl) ?_
          first | refine lw_val rfl (run_eqerrn (ad := ad) rfl) ?_ | refine lw_val rfl (run_eqnn rfl) ?_
          first | refine lw_val rfl (run_move (v := .bool _) rfl) ?_
          refine lw_on rfl rfl (decide_eq_true rfl) ?_
          first | refine lw_val rfl (run_move (v := .int .i64 _) rfl) ?_
          refine lw_on rfl rfl (decide_eq_true rfl) ?_
          first | refine lw_val rfl (run_move (v := .slice _ _ _) rfl) ?_
          refine lw_on rfl rfl (decide_eq_true rfl) ?_
          refine lw_val rfl (run_lenS Tryd.underlying27 rfl) ?_
          refine lw_on rfl rfl (decide_eq_true rfl) ?_
          refine lw_val rfl (run_eqi rfl rfl) ?_
          first | refine lw_val rfl (run_pickT (v := .bool _) rfl (decide_eq_true rfl) rfl) ?_
          first | refine lw_val rfl (run_move (v := .bool _) rfl) ?_
          refine lw_on rfl rfl (decide_eq_true rfl) ?_
          first | refine lw_val rfl (run_move (v := errV ad _) rfl) ?_ | refine lw_val rfl (run_move (v := .nilIface) rfl) ?_
          refine lw_on rfl rfl (decide_eq_true rfl) ?_
          refine lw_call rfl en25 (is_sl hA hs (d := 107) (.inr (by decide)) _) ?_
          clear hs
          rintro _ w ⟨rfl, hs⟩
          first | refine lw_val rfl (run_pickT (v := .bool _) rfl (decide_eq_true rfl) rfl) ?_
          first | refine lw_val rfl (run_move (v := .bool _) rfl) ?_
          refine lw_on rfl rfl (decide_eq_true rfl) ?_
          first | refine lw_val rfl (run_move (v := errV ad _) rfl) ?_ | refine lw_val rfl (run_move (v := .nilIface) rfl) ?_
          refine lw_on rfl rfl (decide_eq_true rfl) ?_
          refine lw_call rfl en25 (is_sl hA hs (d := 107) (.inr (by decide)) _) ?_
          clear hs
          rintro _ w ⟨rfl, hs⟩
          first | refine lw_val rfl (run_pickT (v := .bool _) rfl (decide_eq_true rfl) rfl) ?_
          first | refine lw_val rfl (run_move (v := .bool _) rfl) ?_
          refine lw_on rfl rfl (decide_eq_true rfl) ?_
          first | refine lw_val rfl (run_move (v := errV ad _) rfl) ?_ | refine lw_val rfl (run_move (v := .nilIface) rfl) ?_
          refine lw_on rfl rfl (decide_eq_true rfl) ?_
          first | refine lw_val rfl (run_eqerrn (ad := ad) rfl) ?_ | refine lw_val rfl (run_eqnn rfl) ?_
          first | refine lw_val rfl (run_pickT (v := .bool _) rfl (decide_eq_true rfl) rfl) ?_
          first | refine lw_val rfl (run_move (v := .bool _) rfl) ?_
          refine lw_on rfl rfl (decide_eq_true rfl) ?_
          first | refine lw_val rfl (run_move (v := .bool _) rfl) ?_
          first | refine lw_val rfl (run_pickT (v := .bool _) rfl (decide_eq_true rfl) rfl) ?_
          first | refine lw_val rfl (run_move (v := .bool _) rfl) ?_
          refine lw_on rfl rfl (rfl) ?_
          first | refine lw_val rfl (run_move (v := .slice _ _ _) rfl) ?_
          refine lw_on rfl rfl (rfl) ?_
          first | refine lw_val rfl (run_move (v := .slice _ _ _) rfl) ?_
          refine lw_on rfl rfl (rfl) ?_
          refine lw_call rfl en38 (sameB_sl (la := l) (lb := l) hs (Rd.own 0 rfl) (hb.rd _) rfl rfl (by omega)) ?_
          clear hs
          rintro _ w ⟨rfl, hs⟩
          first | refine lw_val rfl (run_pickT (v := .bool _) rfl (rfl) rfl) ?_
          first | refine lw_val rfl (run_assign (v := .bool _) rfl) ?_
          refine lw_nil ?_
          refine cw_ret ?_
          refine res1 (v := .bool _) rfl rfl ?_
          exact ⟨_, rfl, ret_b (decide_eq_true rfl), hs.nil⟩
        · intro h117
          have g117 := of_decide_eq_false h117
          refine cw_skip ?_
          refine cw_seq ?_
          refine cw_region ?_
          first | refine lw_val rfl (run_move (v := .pointer (some _)) rfl) ?_ | refine lw_val rfl (run_move (v := .pointer none) rfl) ?_
          refine lw_call rfl en24 (bytes_sl (hs.pick 1 rfl) (hsm _) nX (aget_one nX l 6)) ?_
          clear hs
          rintro _ w ⟨a125, c125, rfl, hs⟩
          first | refine lw_val rfl (run_move (v := .tuple _) rfl) ?_
          first | refine lw_val rfl (run_extract (v := .slice _ _ _) rfl rfl) ?_
          first | refine lw_val rfl (run_extract (v := .bool _) rfl rfl) ?_
          first | refine lw_val rfl (run_assign (v := .slice _ _ _) rfl) ?_
          first | refine lw_val rfl (run_assign (v := .bool _) rfl) ?_
          refine lw_nil ?_
          refine cw_seq ?_
          refine cw_region ?_
          first | refine lw_val rfl (run_move (v := errV ad _) rfl) ?_ | refine lw_val rfl (run_move (v := .nilIface) rfl) ?_
          first | refine lw_val rfl (run_eqerrn (ad := ad) rfl) ?_ | refine lw_val rfl (run_eqnn rfl) ?_
          first | refine lw_val rfl (run_move (v := .bool _) rfl) ?_
          refine lw_on rfl rfl (decide_eq_true rfl) ?_
          first | refine lw_val rfl (run_move (v := .int .i64 _) rfl) ?_
          refine lw_on rfl rfl (decide_eq_true rfl) ?_
          first | refine lw_val rfl (run_move (v := .slice _ _ _) rfl) ?_
          refine lw_on rfl rfl (decide_eq_true rfl) ?_
          refine lw_val rfl (run_lenS Tryd.underlying27 rfl) ?_
          refine lw_on rfl rfl (decide_eq_true rfl) ?_
          refine lw_val rfl (run_eqi rfl rfl) ?_
          first | refine lw_val rfl (run_pickT (v := .bool _) rfl (decide_eq_true rfl) rfl) ?_
          first | refine lw_val rfl (run_move (v := .bool _) rfl) ?_
          refine lw_on rfl rfl (decide_eq_true rfl) ?_
          first | refine lw_val rfl (run_move (v := errV ad _) rfl) ?_ | refine lw_val rfl (run_move (v := .nilIface) rfl) ?_
          refine lw_on rfl rfl (decide_eq_true rfl) ?_
          refine lw_call rfl en25 (is_sl hA hs (d := 107) (.inr (by decide)) _) ?_
          clear hs
          rintro _ w ⟨rfl, hs⟩
          first | refine lw_val rfl (run_pickT (v := .bool _) rfl (decide_eq_true rfl) rfl) ?_
          first | refine lw_val rfl (run_move (v := .bool _) rfl) ?_
          refine lw_on rfl rfl (decide_eq_true rfl) ?_
          first | refine lw_val rfl (run_move (v := errV ad _) rfl) ?_ | refine lw_val rfl (run_move (v := .nilIface) rfl) ?_
          refine lw_on rfl rfl (decide_eq_true rfl) ?_
          refine lw_call rfl en25 (is_sl hA hs (d := 107) (.inr (by decide)) _) ?_
          clear hs
          rintro _ w ⟨rfl, hs⟩
          first | refine lw_val rfl (run_pickT (v := .bool _) rfl (decide_eq_true rfl) rfl) ?_
          first | refine lw_val rfl (run_move (v := .bool _) rfl) ?_
          refine lw_on rfl rfl (decide_eq_true rfl) ?_
          first | refine lw_val rfl (run_move (v := errV ad _) rfl) ?_ | refine lw_val rfl (run_move (v := .nilIface) rfl) ?_
          refine lw_on rfl rfl (decide_eq_true rfl) ?_
          first | refine lw_val rfl (run_eqerrn (ad := ad) rfl) ?_ | refine lw_val rfl (run_eqnn rfl) ?_
          first | refine lw_val rfl (run_pickT (v := .bool _) rfl (decide_eq_true rfl) rfl) ?_
          first | refine lw_val rfl (run_move (v := .bool _) rfl) ?_
          refine lw_on rfl rfl (decide_eq_true rfl) ?_
          first | refine lw_val rfl (run_move (v := .bool _) rfl) ?_
          first | refine lw_val rfl (run_pickT (v := .bool _) rfl (decide_eq_true rfl) rfl) ?_
          first | refine lw_val rfl (run_move (v := .bool _) rfl) ?_
          refine lw_on rfl rfl (rfl) ?_
          first | refine lw_val rfl (run_move (v := .slice _ _ _) rfl) ?_
          refine lw_on rfl rfl (rfl) ?_
          first | refine lw_val rfl (run_move (v := .slice _ _ _) rfl) ?_
          refine lw_on rfl rfl (rfl) ?_
          refine lw_call rfl en38 (sameB_sl (la := l) (lb := l) hs (Rd.own 0 rfl) (hb.rd _) rfl rfl (by omega)) ?_
          clear hs
          rintro _ w ⟨rfl, hs⟩
          first | refine lw_val rfl (run_pickT (v := .bool _) rfl (rfl) rfl) ?_
          first | refine lw_val rfl (run_assign (v := .bool _) rfl) ?_
          refine lw_nil ?_
          refine cw_ret ?_
          refine res1 (v := .bool _) rfl rfl ?_
          exact ⟨_, rfl, ret_b (decide_eq_true rfl), hs.nil⟩
      · intro h54
        have g54 := of_decide_eq_false h54
        refine lw_on rfl rfl h54 ?_
        first | refine lw_val rfl (run_move (v := .int .i64 _) rfl) ?_
        refine lw_on rfl rfl h54 ?_
        first | refine lw_val rfl (run_move (v := .slice _ _ _) rfl) ?_
        refine lw_on rfl rfl h54 ?_
        refine lw_val rfl (run_lenS Tryd.underlying27 rfl) ?_
        refine lw_on rfl rfl h54 ?_
        refine lw_val rfl (run_gtr rfl rfl) ?_
        first | refine lw_val rfl (run_pickF (v := .bool _) rfl h54 rfl) ?_
        first | refine lw_val rfl (run_move (v := .bool _) rfl) ?_
        refine lw_split (t := _) (d := 62) rfl ?_ ?_
        · intro h60
          have g60 := of_decide_eq_true h60
          obtain ⟨rfl, rfl⟩ := hbad (by omega)
          refine lw_off rfl rfl rfl h60 ?_
          refine lw_off rfl rfl rfl h60 ?_
          refine lw_off rfl rfl rfl h60 ?_
          refine lw_off rfl rfl rfl h60 ?_
          refine lw_off rfl rfl rfl h60 ?_
          refine lw_off rfl rfl rfl h60 ?_
          first | refine lw_val rfl (run_pickT (v := .bool _) rfl h60 rfl) ?_
          refine lw_nil ?_
          refine cw_ift rfl rfl ?_
          refine cw_seq ?_
          refine cw_region ?_
          first | refine lw_val rfl (run_move (v := errV ad _) rfl) ?_ | refine lw_val rfl (run_move (v := .nilIface) rfl) ?_
          refine lw_call rfl en25 (is_sl hA hs (d := 105) (.inr (by decide)) _) ?_
          clear hs
          rintro _ w ⟨rfl, hs⟩
          refine lw_val rfl (run_not rfl) ?_
          first | refine lw_val rfl (run_move (v := .bool _) rfl) ?_
          refine lw_on rfl rfl (not_f (decide_eq_true rfl)) ?_
          first | refine lw_val rfl (run_move (v := .slice _ _ _) rfl) ?_
          refine lw_on rfl rfl (not_f (decide_eq_true rfl)) ?_
          refine lw_val rfl (run_lenS Tryd.underlying27 rfl) ?_
          refine lw_on rfl rfl (not_f (decide_eq_true rfl)) ?_
          refine lw_val rfl (run_nei rfl rfl) ?_
          first | refine lw_val rfl (run_pickF (v := .bool _) rfl (not_f (decide_eq_true rfl)) rfl) ?_
          refine lw_nil ?_
          refine cw_iff rfl (not_f (decide_eq_true rfl)) ?_
          refine cw_skip ?_
          refine cw_seq ?_
          refine cw_region ?_
          first | refine lw_val rfl (run_move (v := .pointer (some _)) rfl) ?_ | refine lw_val rfl (run_move (v := .pointer none) rfl) ?_
          refine lw_call rfl en40 (head_sl hE (hsm _) (hs.pick 1 rfl) (by simp [oneSt]) (by simp [oneSt]) nX (head_one nX l 2)) ?_
          clear hs
          rintro _ w ⟨rfl, hs⟩
          first | refine lw_val rfl (run_move (v := .tuple _) rfl) ?_
          first | refine lw_val rfl (run_extract (v := .int .i64 _) rfl rfl) ?_
          first | refine lw_val rfl (run_extract (v := .int .u32 _) rfl rfl) ?_
          first | refine lw_val rfl (run_extract (v := errV ad _) rfl rfl) ?_ | refine lw_val rfl (run_extract (v := .nilIface) rfl rfl) ?_
          first | refine lw_val rfl (run_assign (v := .int .i64 _) rfl) ?_
          first | refine lw_val rfl (run_assign (v := .int .u32 _) rfl) ?_
          first | refine lw_val rfl (run_assign (v := errV ad _) rfl) ?_ | refine lw_val rfl (run_assign (v := .nilIface) rfl) ?_
          refine lw_nil ?_
          refine cw_seq ?_
          refine cw_region ?_
          first | refine lw_val rfl (run_move (v := .pointer (some _)) rfl) ?_ | refine lw_val rfl (run_move (v := .pointer none) rfl) ?_
          refine lw_call rfl en40 (head_sl hE (hsm _) hs (by simp [oneSt]) (by simp [oneSt]) nY (head_two nYX l 3)) ?_
          clear hs
          rintro _ w ⟨rfl, hs⟩
          first | refine lw_val rfl (run_move (v := .tuple _) rfl) ?_
          first | refine lw_val rfl (run_extract (v := .int .i64 _) rfl rfl) ?_
          first | refine lw_val rfl (run_extract (v := .int .u32 _) rfl rfl) ?_
          first | refine lw_val rfl (run_extract (v := errV ad _) rfl rfl) ?_ | refine lw_val rfl (run_extract (v := .nilIface) rfl rfl) ?_
          first | refine lw_val rfl (run_assign (v := .int .i64 _) rfl) ?_
          first | refine lw_val rfl (run_assign (v := .int .u32 _) rfl) ?_
          first | refine lw_val rfl (run_assign (v := errV ad _) rfl) ?_ | refine lw_val rfl (run_assign (v := .nilIface) rfl) ?_
          refine lw_nil ?_
          refine cw_seq ?_
          refine cw_region ?_
          first | refine lw_val rfl (run_move (v := .pointer (some _)) rfl) ?_ | refine lw_val rfl (run_move (v := .pointer none) rfl) ?_
          refine lw_call rfl en39 (get_sl hE (hsm _) hs (by simp [oneSt]) (by simp [oneSt]) nY (inI (by decide) (by decide)) (inI (by decide) (by decide)) (get_two nYX l 4 0 0)) ?_
          clear hs
          rintro _ w ⟨a105, c105, rfl, hs⟩
          first | refine lw_val rfl (run_move (v := .tuple _) rfl) ?_
          first | refine lw_val rfl (run_extract (v := .slice _ _ _) rfl rfl) ?_
          first | refine lw_val rfl (run_extract (v := errV ad _) rfl rfl) ?_ | refine lw_val rfl (run_extract (v := .nilIface) rfl rfl) ?_
          first | refine lw_val rfl (run_assign (v := .slice _ _ _) rfl) ?_
          first | refine lw_val rfl (run_assign (v := errV ad _) rfl) ?_ | refine lw_val rfl (run_assign (v := .nilIface) rfl) ?_
          refine lw_nil ?_
          refine cw_seq ?_
          refine cw_region ?_
          first | refine lw_val rfl (run_move (v := .pointer (some _)) rfl) ?_ | refine lw_val rfl (run_move (v := .pointer none) rfl) ?_
          first | refine lw_val rfl (run_move (v := .slice _ _ _) rfl) ?_
          refine lw_val rfl (run_lenS Tryd.underlying27 rfl) ?_
          refine lw_call rfl en39 (get_sl hE (hsm _) (hs.pick 1 rfl) (by simp [oneSt]) (by simp [oneSt]) nX (inI (by decide) (by decide)) (inI (by omega) (by omega)) (get_all nX l 5)) ?_
          clear hs
          rintro _ w ⟨a112, c112, rfl, hs⟩
          first | refine lw_val rfl (run_move (v := .tuple _) rfl) ?_
          first | refine lw_val rfl (run_extract (v := .slice _ _ _) rfl rfl) ?_
          first | refine lw_val rfl (run_extract (v := errV ad _) rfl rfl) ?_ | refine lw_val rfl (run_extract (v := .nilIface) rfl rfl) ?_
          first | refine lw_val rfl (run_assign (v := .slice _ _ _) rfl) ?_
          first | refine lw_val rfl (run_assign (v := errV ad _) rfl) ?_ | refine lw_val rfl (run_assign (v := .nilIface) rfl) ?_
          refine lw_nil ?_
          refine cw_seq ?_
          refine cw_seq ?_
          refine cw_region ?_
          first | refine lw_val rfl (run_move (v := .slice _ _ _) rfl) ?_
          refine lw_val rfl (run_lenS Tryd.underlying27 rfl) ?_
          refine lw_val rfl (run_gtr rfl rfl) ?_
          refine lw_nil ?_
          refine cw_if rfl ?_ ?_
          · intro h117
            have g117 := of_decide_eq_true h117
            obtain ⟨x0, hx0⟩ : ∃ x0, l[0]? = some x0 := ⟨l[0]'(by omega), List.getElem?_eq_getElem _⟩
            obtain ⟨b0, o0, rfl, hcell⟩ := hs.ownCells 0 rfl (by rw [bytesL_len]; omega)
            refine cw_region ?_
            first | refine lw_val rfl (run_move (v := .slice _ _ _) rfl) ?_
            refine lw_val rfl (run_indexAddr Tryd.underlying27 sz5 rfl rfl (i := 0) rfl (by omega) rfl) ?_
            refine lw_val rfl (run_load Tryd.underlying5 rfl rfl (hcell 0 _ (bytesL_at hx0))) ?_
            refine lw_val rfl (run_bits (by simp) rfl rfl rfl) ?_
            refine lw_val rfl (run_indexAddr Tryd.underlying27 sz5 rfl rfl (i := 0) rfl (by omega) rfl) ?_
            refine lw_storeOwn (j := 0) (v := .int .u8 _) hs 0 rfl sz5 rfl rfl (by rw [bytesL_len]; omega) rfl rfl ?_
            clear hs
            intro w hs
            simp only [List.set_cons_zero] at hs
            refine lw_nil ?_
            refine cw_seq ?_
            refine cw_region ?_
            first | refine lw_val rfl (run_move (v := .pointer (some _)) rfl) ?_ | refine lw_val rfl (run_move (v := .pointer none) rfl) ?_
            refine lw_call rfl en24 (bytes_sl (hs.pick 1 rfl) (hsm _) nX (aget_one nX l 6)) ?_
            clear hs
            rintro _ w ⟨a125, c125, rfl, hs⟩
            first | refine lw_val rfl (run_move (v := .tuple _) rfl) ?_
            first | refine lw_val rfl (run_extract (v := .slice _ _ _) rfl rfl) ?_
            first | refine lw_val rfl (run_extract (v := .bool _) rfl rfl) ?_
            first | refine lw_val rfl (run_assign (v := .slice _ _ _) rfl) ?_
            first | refine lw_val rfl (run_assign (v := .bool _) rfl) ?_
            refine lw_nil ?_
            refine cw_seq ?_
            refine cw_region ?_
            first | refine lw_val rfl (run_move (v := errV ad _) rfl) ?_ | refine lw_val rfl (run_move (v := .nilIface) rfl) ?_
            first | refine lw_val rfl (run_eqerrn (ad := ad) rfl) ?_ | refine lw_val rfl (run_eqnn rfl) ?_
            first | refine lw_val rfl (run_move (v := .bool _) rfl) ?_
            refine lw_on rfl rfl (decide_eq_true rfl) ?_
            first | refine lw_val rfl (run_move (v := .int .i64 _) rfl) ?_
            refine lw_on rfl rfl (decide_eq_true rfl) ?_
            first | refine lw_val rfl (run_move (v := .slice _ _ _) rfl) ?_
            refine lw_on rfl rfl (decide_eq_true rfl) ?_
            refine lw_val rfl (run_lenS Tryd.underlying27 rfl) ?_
            refine lw_on rfl rfl (decide_eq_true rfl) ?_
            refine lw_val rfl (run_eqi rfl rfl) ?_
            first | refine lw_val rfl (run_pickT (v := .bool _) rfl (decide_eq_true rfl) rfl) ?_
            first | refine lw_val rfl (run_move (v := .bool _) rfl) ?_
            refine lw_on rfl rfl (decide_eq_true rfl) ?_
            first | refine lw_val rfl (run_move (v := errV ad _) rfl) ?_ | refine lw_val rfl (run_move (v := .nilIface) rfl) ?_
            refine lw_on rfl rfl (decide_eq_true rfl) ?_
            refine lw_call rfl en25 (is_sl hA hs (d := 107) (.inr (by decide)) _) ?_
            clear hs
            rintro _ w ⟨rfl, hs⟩
            first | refine lw_val rfl (run_pickT (v := .bool _) rfl (decide_eq_true rfl) rfl) ?_
            first | refine lw_val rfl (run_move (v := .bool _) rfl) ?_
            refine lw_on rfl rfl (decide_eq_true rfl) ?_
            first | refine lw_val rfl (run_move (v := errV ad _) rfl) ?_ | refine lw_val rfl (run_move (v := .nilIface) rfl) ?_
            refine lw_on rfl rfl (decide_eq_true rfl) ?_
            refine lw_call rfl en25 (is_sl hA hs (d := 107) (.inr (by decide)) _) ?_
            clear hs
            rintro _ w ⟨rfl, hs⟩
            first | refine lw_val rfl (run_pickT (v := .bool _) rfl (decide_eq_true rfl) rfl) ?_
            first | refine lw_val rfl (run_move (v := .bool _) rfl) ?_
            refine lw_on rfl rfl (decide_eq_true rfl) ?_
            first | refine lw_val rfl (run_move (v := errV ad _) rfl) ?_ | refine lw_val rfl (run_move (v := .nilIface) rfl) ?_
            refine lw_on rfl rfl (decide_eq_true rfl) ?_
            first | refine lw_val rfl (run_eqerrn (ad := ad) rfl) ?_ | refine lw_val rfl (run_eqnn rfl) ?_
            first | refine lw_val rfl (run_pickT (v := .bool _) rfl (decide_eq_true rfl) rfl) ?_
            first | refine lw_val rfl (run_move (v := .bool _) rfl) ?_
            refine lw_on rfl rfl (decide_eq_true rfl) ?_
            first | refine lw_val rfl (run_move (v := .bool _) rfl) ?_
            first | refine lw_val rfl (run_pickT (v := .bool _) rfl (decide_eq_true rfl) rfl) ?_
            first | refine lw_val rfl (run_move (v := .bool _) rfl) ?_
            refine lw_on rfl rfl (rfl) ?_
            first | refine lw_val rfl (run_move (v := .slice _ _ _) rfl) ?_
            refine lw_on rfl rfl (rfl) ?_
            first | refine lw_val rfl (run_move (v := .slice _ _ _) rfl) ?_
            refine lw_on rfl rfl (rfl) ?_
            refine lw_call rfl en38 (sameB_sl (la := l) (lb := l) hs (Rd.own 0 rfl) (hb.rd _) rfl rfl (by omega)) ?_
            clear hs
            rintro _ w ⟨rfl, hs⟩
            first | refine lw_val rfl (run_pickT (v := .bool _) rfl (rfl) rfl) ?_
            first | refine lw_val rfl (run_assign (v := .bool _) rfl) ?_
            refine lw_nil ?_
            refine cw_ret ?_
            refine res1 (v := .bool _) rfl rfl ?_
            exact ⟨_, rfl, ret_b (decide_eq_true rfl), hs.nil⟩
          · intro h117
            have g117 := of_decide_eq_false h117
            refine cw_skip ?_
            refine cw_seq ?_
            refine cw_region ?_
            first | refine lw_val rfl (run_move (v := .pointer (some _)) rfl) ?_ | refine lw_val rfl (run_move (v := .pointer none) rfl) ?_
            refine lw_call rfl en24 (bytes_sl (hs.pick 1 rfl) (hsm _) nX (aget_one nX l 6)) ?_
            clear hs
            rintro _ w ⟨a125, c125, rfl, hs⟩
            first | refine lw_val rfl (run_move (v := .tuple _) rfl) ?_
            first | refine lw_val rfl (run_extract (v := .slice _ _ _) rfl rfl) ?_
            first | refine lw_val rfl (run_extract (v := .bool _) rfl rfl) ?_
            first | refine lw_val rfl (run_assign (v := .slice _ _ _) rfl) ?_
            first | refine lw_val rfl (run_assign (v := .bool _) rfl) ?_
            refine lw_nil ?_
            refine cw_seq ?_
            refine cw_region ?_
            first | refine lw_val rfl (run_move (v := errV ad _) rfl) ?_ | refine lw_val rfl (run_move (v := .nilIface) rfl) ?_
            first | refine lw_val rfl (run_eqerrn (ad := ad) rfl) ?_ | refine lw_val rfl (run_eqnn rfl) ?_
            first | refine lw_val rfl (run_move (v := .bool _) rfl) ?_
            refine lw_on rfl rfl (decide_eq_true rfl) ?_
            first | refine lw_val rfl (run_move (v := .int .i64 _) rfl) ?_
            refine lw_on rfl rfl (decide_eq_true rfl) ?_
            first | refine lw_val rfl (run_move (v := .slice _ _ _) rfl) ?_
            refine lw_on rfl rfl (decide_eq_true rfl) ?_
            refine lw_val rfl (run_lenS Tryd.underlying27 rfl) ?_
            refine lw_on rfl rfl (decide_eq_true rfl) ?_
            refine lw_val rfl (run_eqi rfl rfl) ?_
            first | refine lw_val rfl (run_pickT (v := .bool _) rfl (decide_eq_true rfl) rfl) ?_
            first | refine lw_val rfl (run_move (v := .bool _) rfl) ?_
            refine lw_on rfl rfl (decide_eq_true rfl) ?_
            first | refine lw_val rfl (run_move (v := errV ad _) rfl) ?_ | refine lw_val rfl (run_move (v := .nilIface) rfl) ?_
            refine lw_on rfl rfl (decide_eq_true rfl) ?_
            refine lw_call rfl en25 (is_sl hA hs (d := 107) (.inr (by decide)) _) ?_
            clear hs
            rintro _ w ⟨rfl, hs⟩
            first | refine lw_val rfl (run_pickT (v := .bool _) rfl (decide_eq_true rfl) rfl) ?_
            first | refine lw_val rfl (run_move (v := .bool _) rfl) ?_
            refine lw_on rfl rfl (decide_eq_true rfl) ?_
            first | refine lw_val rfl (run_move (v := errV ad _) rfl) ?_ | refine lw_val rfl (run_move (v := .nilIface) rfl) ?_
            refine lw_on rfl rfl (decide_eq_true rfl) ?_
            refine lw_call rfl en25 (is_sl hA hs (d := 107) (.inr (by decide)) _) ?_
            clear hs
            rintro _ w ⟨rfl, hs⟩
            first | refine lw_val rfl (run_pickT (v := .bool _) rfl (decide_eq_true rfl) rfl) ?_
            first | refine lw_val rfl (run_move (v := .bool _) rfl) ?_
            refine lw_on rfl rfl (decide_eq_true rfl) ?_
            first | refine lw_val rfl (run_move (v := errV ad _) rfl) ?_ | refine lw_val rfl (run_move (v := .nilIface) rfl) ?_
            refine lw_on rfl rfl (decide_eq_true rfl) ?_
            first | refine lw_val rfl (run_eqerrn (ad := ad) rfl) ?_ | refine lw_val rfl (run_eqnn rfl) ?_
            first | refine lw_val rfl (run_pickT (v := .bool _) rfl (decide_eq_true rfl) rfl) ?_
            first | refine lw_val rfl (run_move (v := .bool _) rfl) ?_
            refine lw_on rfl rfl (decide_eq_true rfl) ?_
            first | refine lw_val rfl (run_move (v := .bool _) rfl) ?_
            first | refine lw_val rfl (run_pickT (v := .bool _) rfl (decide_eq_true rfl) rfl) ?_
            first | refine lw_val rfl (run_move (v := .bool _) rfl) ?_
            refine lw_on rfl rfl (rfl) ?_
            first | refine lw_val rfl (run_move (v := .slice _ _ _) rfl) ?_
            refine lw_on rfl rfl (rfl) ?_
            first | refine lw_val rfl (run_move (v := .slice _ _ _) rfl) ?_
            refine lw_on rfl rfl (rfl) ?_
            refine lw_call rfl en38 (sameB_sl (la := l) (lb := l) hs (Rd.own 0 rfl) (hb.rd _) rfl rfl (by omega)) ?_
            clear hs
            rintro _ w ⟨rfl, hs⟩
            first | refine lw_val rfl (run_pickT (v := .bool _) rfl (rfl) rfl) ?_
            first | refine lw_val rfl (run_assign (v := .bool _) rfl) ?_
            refine lw_nil ?_
            refine cw_ret ?_
            refine res1 (v := .bool _) rfl rfl ?_
            exact ⟨_, rfl, ret_b (decide_eq_true rfl), hs.nil⟩
        · intro h60
          have g60 := of_decide_eq_false h60
          refine lw_on rfl rfl h60 ?_
          first | refine lw_val rfl (run_move (v := .int .i64 _) rfl) ?_
          refine lw_on rfl rfl h60 ?_
          first | refine lw_val rfl (run_move (v := .slice _ _ _) rfl) ?_
          refine lw_on rfl rfl h60 ?_
          refine lw_val rfl (run_lenS Tryd.underlying27 rfl) ?_
          refine lw_on rfl rfl h60 ?_
          first | refine lw_val rfl (run_move (v := .int .i64 _) rfl) ?_
          refine lw_on rfl rfl h60 ?_
          refine lw_val rfl (run_sub64 rfl rfl rfl (inI (by omega) (by omega))) ?_
          refine lw_on rfl rfl h60 ?_
          refine lw_val rfl (run_gtr rfl rfl) ?_
          first | refine lw_val rfl (run_pickF (v := .bool _) rfl h60 rfl) ?_
          refine lw_nil ?_
          refine cw_if rfl ?_ ?_
          · intro h68
            have g68 := of_decide_eq_true h68
            obtain ⟨rfl, rfl⟩ := hbad (by omega)
            refine cw_seq ?_
            refine cw_region ?_
            first | refine lw_val rfl (run_move (v := errV ad _) rfl) ?_ | refine lw_val rfl (run_move (v := .nilIface) rfl) ?_
            refine lw_call rfl en25 (is_sl hA hs (d := 105) (.inr (by decide)) _) ?_
            clear hs
            rintro _ w ⟨rfl, hs⟩
            refine lw_val rfl (run_not rfl) ?_
            first | refine lw_val rfl (run_move (v := .bool _) rfl) ?_
            refine lw_on rfl rfl (not_f (decide_eq_true rfl)) ?_
            first | refine lw_val rfl (run_move (v := .slice _ _ _) rfl) ?_
            refine lw_on rfl rfl (not_f (decide_eq_true rfl)) ?_
            refine lw_val rfl (run_lenS Tryd.underlying27 rfl) ?_
            refine lw_on rfl rfl (not_f (decide_eq_true rfl)) ?_
            refine lw_val rfl (run_nei rfl rfl) ?_
            first | refine lw_val rfl (run_pickF (v := .bool _) rfl (not_f (decide_eq_true rfl)) rfl) ?_
            refine lw_nil ?_
            refine cw_iff rfl (not_f (decide_eq_true rfl)) ?_
            refine cw_skip ?_
            refine cw_seq ?_
            refine cw_region ?_
            first | refine lw_val rfl (run_move (v := .pointer (some _)) rfl) ?_ | refine lw_val rfl (run_move (v := .pointer none) rfl) ?_
            refine lw_call rfl en40 (head_sl hE (hsm _) (hs.pick 1 rfl) (by simp [oneSt]) (by simp [oneSt]) nX (head_one nX l 2)) ?_
            clear hs
            rintro _ w ⟨rfl, hs⟩
            first | refine lw_val rfl (run_move (v := .tuple _) rfl) ?_
            first | refine lw_val rfl (run_extract (v := .int .i64 _) rfl rfl) ?_
            first | refine lw_val rfl (run_extract (v := .int .u32 _) rfl rfl) ?_
            first | refine lw_val rfl (run_extract (v := errV ad _) rfl rfl) ?_ | refine lw_val rfl (run_extract (v := .nilIface) rfl rfl) ?_
            first | refine lw_val rfl (run_assign (v := .int .i64 _) rfl) ?_
            first | refine lw_val rfl (run_assign (v := .int .u32 _) rfl) ?_
            first | refine lw_val rfl (run_assign (v := errV ad _) rfl) ?_ | refine lw_val rfl (run_assign (v := .nilIface) rfl) ?_
            refine lw_nil ?_
            refine cw_seq ?_
            refine cw_region ?_
            first | refine lw_val rfl (run_move (v := .pointer (some _)) rfl) ?_ | refine lw_val rfl (run_move (v := .pointer none) rfl) ?_
            refine lw_call rfl en40 (head_sl hE (hsm _) hs (by simp [oneSt]) (by simp [oneSt]) nY (head_two nYX l 3)) ?_
            clear hs
            rintro _ w ⟨rfl, hs⟩
            first | refine lw_val rfl (run_move (v := .tuple _) rfl) ?_
            first | refine lw_val rfl (run_extract (v := .int .i64 _) rfl rfl) ?_
            first | refine lw_val rfl (run_extract (v := .int .u32 _) rfl rfl) ?_
            first | refine lw_val rfl (run_extract (v := errV ad _) rfl rfl) ?_ | refine lw_val rfl (run_extract (v := .nilIface) rfl rfl) ?_
            first | refine lw_val rfl (run_assign (v := .int .i64 _) rfl) ?_
            first | refine lw_val rfl (run_assign (v := .int .u32 _) rfl) ?_
            first | refine lw_val rfl (run_assign (v := errV ad _) rfl) ?_ | refine lw_val rfl (run_assign (v := .nilIface) rfl) ?_
            refine lw_nil ?_
            refine cw_seq ?_
            refine cw_region ?_
            first | refine lw_val rfl (run_move (v := .pointer (some _)) rfl) ?_ | refine lw_val rfl (run_move (v := .pointer none) rfl) ?_
            refine lw_call rfl en39 (get_sl hE (hsm _) hs (by simp [oneSt]) (by simp [oneSt]) nY (inI (by decide) (by decide)) (inI (by decide) (by decide)) (get_two nYX l 4 0 0)) ?_
            clear hs
            rintro _ w ⟨a105, c105, rfl, hs⟩
            first | refine lw_val rfl (run_move (v := .tuple _) rfl) ?_
            first | refine lw_val rfl (run_extract (v := .slice _ _ _) rfl rfl) ?_
            first | refine lw_val rfl (run_extract (v := errV ad _) rfl rfl) ?_ | refine lw_val rfl (run_extract (v := .nilIface) rfl rfl) ?_
            first | refine lw_val rfl (run_assign (v := .slice _ _ _) rfl) ?_
            first | refine lw_val rfl (run_assign (v := errV ad _) rfl) ?_ | refine lw_val rfl (run_assign (v := .nilIface) rfl) ?_
            refine lw_nil ?_
            refine cw_seq ?_
            refine cw_region ?_
            first | refine lw_val rfl (run_move (v := .pointer (some _)) rfl) ?_ | refine lw_val rfl (run_move (v := .pointer none) rfl) ?_
            first | refine lw_val rfl (run_move (v := .slice _ _ _) rfl) ?_
            refine lw_val rfl (run_lenS Tryd.underlying27 rfl) ?_
            refine lw_call rfl en39 (get_sl hE (hsm _) (hs.pick 1 rfl) (by simp [oneSt]) (by simp [oneSt]) nX (inI (by decide) (by decide)) (inI (by omega) (by omega)) (get_all nX l 5)) ?_
            clear hs
            rintro _ w ⟨a112, c112, rfl, hs⟩
            first | refine lw_val rfl (run_move (v := .tuple _) rfl) ?_
            first | refine lw_val rfl (run_extract (v := .slice _ _ _) rfl rfl) ?_
            first | refine lw_val rfl (run_extract (v := errV ad _) rfl rfl) ?_ | refine lw_val rfl (run_extract (v := .nilIface) rfl rfl) ?_
            first | refine lw_val rfl (run_assign (v := .slice _ _ _) rfl) ?_
            first | refine lw_val rfl (run_assign (v := errV ad _) rfl) ?_ | refine lw_val rfl (run_assign (v := .nilIface) rfl) ?_
            refine lw_nil ?_
            refine cw_seq ?_
            refine cw_seq ?_
            refine cw_region ?_
            first | refine lw_val rfl (run_move (v := .slice _ _ _) rfl) ?_
            refine lw_val rfl (run_lenS Tryd.underlying27 rfl) ?_
            refine lw_val rfl (run_gtr rfl rfl) ?_
            refine lw_nil ?_
            refine cw_if rfl ?_ ?_
            · intro h117
              have g117 := of_decide_eq_true h117
              obtain ⟨x0, hx0⟩ : ∃ x0, l[0]? = some x0 := ⟨l[0]'(by omega), List.getElem?_eq_getElem _⟩
              obtain ⟨b0, o0, rfl, hcell⟩ := hs.ownCells 0 rfl (by rw [bytesL_len]; omega)
              refine cw_region ?_
              first | refine lw_val rfl (run_move (v := .slice _ _ _) rfl) ?_
              refine lw_val rfl (run_indexAddr Tryd.underlying27 sz5 rfl rfl (i := 0) rfl (by omega) rfl) ?_
              refine lw_val rfl (run_load Tryd.underlying5 rfl rfl (hcell 0 _ (bytesL_at hx0))) ?_
              refine lw_val rfl (run_bits (by simp) rfl rfl rfl) ?_
              refine lw_val rfl (run_indexAddr Tryd.underlying27 sz5 rfl rfl (i := 0) rfl (by omega) rfl) ?_
              refine lw_storeOwn (j := 0) (v := .int .u8 _) hs 0 rfl sz5 rfl rfl (by rw [bytesL_len]; omega) rfl rfl ?_
              clear hs
              intro w hs
              simp only [List.set_cons_zero] at hs
              refine lw_nil ?_
              refine cw_seq ?_
              refine cw_region ?_
              first | refine lw_val rfl (run_move (v := .pointer (some _)) rfl) ?_ | refine lw_val rfl (run_move (v := .pointer none) rfl) ?_
              refine lw_call rfl en24 (bytes_sl (hs.pick 1 rfl) (hsm _) nX (aget_one nX l 6)) ?_
              clear hs
              rintro _ w ⟨a125, c125, rfl, hs⟩
              first | refine lw_val rfl (run_move (v := .tuple _) rfl) ?_
              first | refine lw_val rfl (run_extract (v := .slice _ _ _) rfl rfl) ?_
              first | refine lw_val rfl (run_extract (v := .bool _) rfl rfl) ?_
              first | refine lw_val rfl (run_assign (v := .slice _ _ _) rfl) ?_
              first | refine lw_val rfl (run_assign (v := .bool _) rfl) ?_
              refine lw_nil ?_
              refine cw_seq ?_
              refine cw_region ?_
              first | refine lw_val rfl (run_move (v := errV ad _) rfl) ?_ | refine lw_val rfl (run_move (v := .nilIface) rfl) ?_
              first | refine lw_val rfl (run_eqerrn (ad := ad) rfl) ?_ | refine lw_val rfl (run_eqnn rfl) ?_
              first | refine lw_val rfl (run_move (v := .bool _) rfl) ?_
              refine lw_on rfl rfl (decide_eq_true rfl) ?_
              first | refine lw_val rfl (run_move (v := .int .i64 _) rfl) ?_
              refine lw_on rfl rfl (decide_eq_true rfl) ?_
              first | refine lw_val rfl (run_move (v := .slice _ _ _) rfl) ?_
              refine lw_on rfl rfl (decide_eq_true rfl) ?_
              refine lw_val rfl (run_lenS Tryd.underlying27 rfl) ?_
              refine lw_on rfl rfl (decide_eq_true rfl) ?_
              refine lw_val rfl (run_eqi rfl rfl) ?_
              first | refine lw_val rfl (run_pickT (v := .bool _) rfl (decide_eq_true rfl) rfl) ?_
              first | refine lw_val rfl (run_move (v := .bool _) rfl) ?_
              refine lw_on rfl rfl (decide_eq_true rfl) ?_
              first | refine lw_val rfl (run_move (v := errV ad _) rfl) ?_ | refine lw_val rfl (run_move (v := .nilIface) rfl) ?_
              refine lw_on rfl rfl (decide_eq_true rfl) ?_
              refine lw_call rfl en25 (is_sl hA hs (d := 107) (.inr (by decide)) _) ?_
              clear hs
              rintro _ w ⟨rfl, hs⟩
              first | refine lw_val rfl (run_pickT (v := .bool _) rfl (decide_eq_true rfl) rfl) ?_
              first | refine lw_val rfl (run_move (v := .bool _) rfl) ?_
              refine lw_on rfl rfl (decide_eq_true rfl) ?_
              first | refine lw_val rfl (run_move (v := errV ad _) rfl) ?_ | refine lw_val rfl (run_move (v := .nilIface) rfl) ?_
              refine lw_on rfl rfl (decide_eq_true rfl) ?_
              refine lw_call rfl en25 (is_sl hA hs (d := 107) (.inr (by decide)) _) ?_
              clear hs
              rintro _ w ⟨rfl, hs⟩
              first | refine lw_val rfl (run_pickT (v := .bool _) rfl (decide_eq_true rfl) rfl) ?_
              first | refine lw_val rfl (run_move (v := .bool _) rfl) ?_
              refine lw_on rfl rfl (decide_eq_true rfl) ?_
              first | refine lw_val rfl (run_move (v := errV ad _) rfl) ?_ | refine lw_val rfl (run_move (v := .nilIface) rfl) ?_
              refine lw_on rfl rfl (decide_eq_true rfl) ?_
              first | refine lw_val rfl (run_eqerrn (ad := ad) rfl) ?_ | refine lw_val rfl (run_eqnn rfl) ?_
              first | refine lw_val rfl (run_pickT (v := .bool _) rfl (decide_eq_true rfl) rfl) ?_
              first | refine lw_val rfl (run_move (v := .bool _) rfl) ?_
              refine lw_on rfl rfl (decide_eq_true rfl) ?_
              first | refine lw_val rfl (run_move (v := .bool _) rfl) ?_
              first | refine lw_val rfl (run_pickT (v := .bool _) rfl (decide_eq_true rfl) rfl) ?_
              first | refine lw_val rfl (run_move (v := .bool _) rfl) ?_
              refine lw_on rfl rfl (rfl) ?_
              first | refine lw_val rfl (run_move (v := .slice _ _ _) rfl) ?_
              refine lw_on rfl rfl (rfl) ?_
              first | refine lw_val rfl (run_move (v := .slice _ _ _) rfl) ?_
              refine lw_on rfl rfl (rfl) ?_
              refine lw_call rfl en38 (sameB_sl (la := l) (lb := l) hs (Rd.own 0 rfl) (hb.rd _) rfl rfl (by omega)) ?_
              clear hs
              rintro _ w ⟨rfl, hs⟩
              first | refine lw_val rfl (run_pickT (v := .bool _) rfl (rfl) rfl) ?_
              first | refine lw_val rfl (run_assign (v := .bool _) rfl) ?_
              refine lw_nil ?_
              refine cw_ret ?_
              refine res1 (v := .bool _) rfl rfl ?_
              exact ⟨_, rfl, ret_b (decide_eq_true rfl), hs.nil⟩
            · intro h117
              have g117 := of_decide_eq_false h117
              refine cw_skip ?_
              refine cw_seq ?_
              refine cw_region ?_
              first | refine lw_val rfl (run_move (v := .pointer (some _)) rfl) ?_ | refine lw_val rfl (run_move (v := .pointer none) rfl) ?_
              refine lw_call rfl en24 (bytes_sl (hs.pick 1 rfl) (hsm _) nX (aget_one nX l 6)) ?_
              clear hs
              rintro _ w ⟨a125, c125, rfl, hs⟩
              first | refine lw_val rfl (run_move (v := .tuple _) rfl) ?_
              first | refine lw_val rfl (run_extract (v := .slice _ _ _) rfl rfl) ?_
              first | refine lw_val rfl (run_extract (v := .bool _) rfl rfl) ?_
              first | refine lw_val rfl (run_assign (v := .slice _ _ _) rfl) ?_
              first | refine lw_val rfl (run_assign (v := .bool _) rfl) ?_
              refine lw_nil ?_
              refine cw_seq ?_
              refine cw_region ?_
              first | refine lw_val rfl (run_move (v := errV ad _) rfl) ?_ | refine lw_val rfl (run_move (v := .nilIface) rfl) ?_
              first | refine lw_val rfl (run_eqerrn (ad := ad) rfl) ?_ | refine lw_val rfl (run_eqnn rfl) ?_
              first | refine lw_val rfl (run_move (v := .bool _) rfl) ?_
              refine lw_on rfl rfl (decide_eq_true rfl) ?_
              first | refine lw_val rfl (run_move (v := .int .i64 _) rfl) ?_
              refine lw_on rfl rfl (decide_eq_true rfl) ?_
              first | refine lw_val rfl (run_move (v := .slice _ _ _) rfl) ?_
              refine lw_on rfl rfl (decide_eq_true rfl) ?_
              refine lw_val rfl (run_lenS Tryd.underlying27 rfl) ?_
              refine lw_on rfl rfl (decide_eq_true rfl) ?_
              refine lw_val rfl (run_eqi rfl rfl) ?_
              first | refine lw_val rfl (run_pickT (v := .bool _) rfl (decide_eq_true rfl) rfl) ?_
              first | refine lw_val rfl (run_move (v := .bool _) rfl) ?_
              refine lw_on rfl rfl (decide_eq_true rfl) ?_
              first | refine lw_val rfl (run_move (v := errV ad _) rfl) ?_ | refine lw_val rfl (run_move (v := .nilIface) rfl) ?_
              refine lw_on rfl rfl (decide_eq_true rfl) ?_
              refine lw_call rfl en25 (is_sl hA hs (d := 107) (.inr (by decide)) _) ?_
              clear hs
              rintro _ w ⟨rfl, hs⟩
              first | refine lw_val rfl (run_pickT (v := .bool _) rfl (decide_eq_true rfl) rfl) ?_
              first | refine lw_val rfl (run_move (v := .bool _) rfl) ?_
              refine lw_on rfl rfl (decide_eq_true rfl) ?_
              first | refine lw_val rfl (run_move (v := errV ad _) rfl) ?_ | refine lw_val rfl (run_move (v := .nilIface) rfl) ?_
              refine lw_on rfl rfl (decide_eq_true rfl) ?_
              refine lw_call rfl en25 (is_sl hA hs (d := 107) (.inr (by decide)) _) ?_
              clear hs
              rintro _ w ⟨rfl, hs⟩
              first | refine lw_val rfl (run_pickT (v := .bool _) rfl (decide_eq_true rfl) rfl) ?_
              first | refine lw_val rfl (run_move (v := .bool _) rfl) ?_
              refine lw_on rfl rfl (decide_eq_true rfl) ?_
              first | refine lw_val rfl (run_move (v := errV ad _) rfl) ?_ | refine lw_val rfl (run_move (v := .nilIface) rfl) ?_
              refine lw_on rfl rfl (decide_eq_true rfl) ?_
              first | refine lw_val rfl (run_eqerrn (ad := ad) rfl) ?_ | refine lw_val rfl (run_eqnn rfl) ?_
              first | refine lw_val rfl (run_pickT (v := .bool _) rfl (decide_eq_true rfl) rfl) ?_
              first | refine lw_val rfl (run_move (v := .bool _) rfl) ?_
              refine lw_on rfl rfl (decide_eq_true rfl) ?_
              first | refine lw_val rfl (run_move (v := .bool _) rfl) ?_
              first | refine lw_val rfl (run_pickT (v := .bool _) rfl (decide_eq_true rfl) rfl) ?_
              first | refine lw_val rfl (run_move (v := .bool _) rfl) ?_
              refine lw_on rfl rfl (rfl) ?_
              first | refine lw_val rfl (run_move (v := .slice _ _ _) rfl) ?_
              refine lw_on rfl rfl (rfl) ?_
              first | refine lw_val rfl (run_move (v := .slice _ _ _) rfl) ?_
              refine lw_on rfl rfl (rfl) ?_
              refine lw_call rfl en38 (sameB_sl (la := l) (lb := l) hs (Rd.own 0 rfl) (hb.rd _) rfl rfl (by omega)) ?_
              clear hs
              rintro _ w ⟨rfl, hs⟩
              first | refine lw_val rfl (run_pickT (v := .bool _) rfl (rfl) rfl) ?_
              first | refine lw_val rfl (run_assign (v := .bool _) rfl) ?_
              refine lw_nil ?_
              refine cw_ret ?_
              refine res1 (v := .bool _) rfl rfl ?_
              exact ⟨_, rfl, ret_b (decide_eq_true rfl), hs.nil⟩
          · intro h68
            have g68 := of_decide_eq_false h68
            obtain ⟨i, rfl⟩ : ∃ i : Nat, off = i := ⟨off.toNat, by omega⟩
            obtain ⟨j, rfl⟩ : ∃ j : Nat, q = j := ⟨q.toNat, by omega⟩
            obtain ⟨ho, hc⟩ := hgood (by omega)
            simp only [Int.toNat_natCast] at ho
            refine cw_seq ?_
            refine cw_region ?_
            first | refine lw_val rfl (run_move (v := errV ad _) rfl) ?_ | refine lw_val rfl (run_move (v := .nilIface) rfl) ?_
            first | refine lw_val rfl (run_neerrn (ad := ad) rfl) ?_ | refine lw_val rfl (run_nenn rfl) ?_
            first | refine lw_val rfl (run_move (v := .bool _) rfl) ?_
            refine lw_on rfl rfl (not_f (decide_eq_true hc)) ?_
            first | refine lw_val rfl (run_move (v := .slice _ _ _) rfl) ?_
            refine lw_on rfl rfl (not_f (decide_eq_true hc)) ?_
            first | refine lw_val rfl (run_move (v := .slice _ _ _) rfl) ?_
            refine lw_on rfl rfl (not_f (decide_eq_true hc)) ?_
            first | refine lw_val rfl (run_move (v := .int .i64 _) rfl) ?_
            refine lw_on rfl rfl (not_f (decide_eq_true hc)) ?_
            first | refine lw_val rfl (run_move (v := .int .i64 _) rfl) ?_
            refine lw_on rfl rfl (not_f (decide_eq_true hc)) ?_
            first | refine lw_val rfl (run_move (v := .int .i64 _) rfl) ?_
            refine lw_on rfl rfl (not_f (decide_eq_true hc)) ?_
            refine lw_val rfl (run_add64 rfl rfl rfl (inI (by omega) (by omega))) ?_
            refine lw_on rfl rfl (not_f (decide_eq_true hc)) ?_
            refine lw_val rfl (run_slice Tryd.underlying27 sz5 rfl rfl rfl (lo := i) (hi := i + j) rfl rfl (by omega) (by have := (hb.1.open); omega)) ?_
            refine lw_on rfl rfl (not_f (decide_eq_true hc)) ?_
            refine lw_call rfl en38 (sameB_sl (la := out) (lb := (l.take (i + j)).drop i) (b := subA a c i) (m := i + j - i) (d := c - i) hs (Rd.own 0 rfl) ((hb.rd _).subB (by omega) (by omega)) rfl (by simp; omega) (by rw [ho]; simp; omega)) ?_
            clear hs
            rintro _ w ⟨rfl, hs⟩
            refine lw_on rfl rfl (not_f (decide_eq_true hc)) ?_
            refine lw_val rfl (run_not rfl) ?_
            first | refine lw_val rfl (run_pickF (v := .bool _) rfl (not_f (decide_eq_true hc)) rfl) ?_
            refine lw_nil ?_
            refine cw_iff rfl (not_f (decide_eq_true ho)) ?_
            refine cw_skip ?_
            refine cw_seq ?_
            refine cw_region ?_
            first | refine lw_val rfl (run_move (v := .pointer (some _)) rfl) ?_ | refine lw_val rfl (run_move (v := .pointer none) rfl) ?_
            refine lw_call rfl en40 (head_sl hE (hsm _) (hs.pick 1 rfl) (by simp [oneSt]) (by simp [oneSt]) nX (head_one nX l 2)) ?_
            clear hs
            rintro _ w ⟨rfl, hs⟩
            first | refine lw_val rfl (run_move (v := .tuple _) rfl) ?_
            first | refine lw_val rfl (run_extract (v := .int .i64 _) rfl rfl) ?_
            first | refine lw_val rfl (run_extract (v := .int .u32 _) rfl rfl) ?_
            first | refine lw_val rfl (run_extract (v := errV ad _) rfl rfl) ?_ | refine lw_val rfl (run_extract (v := .nilIface) rfl rfl) ?_
            first | refine lw_val rfl (run_assign (v := .int .i64 _) rfl) ?_
            first | refine lw_val rfl (run_assign (v := .int .u32 _) rfl) ?_
            first | refine lw_val rfl (run_assign (v := errV ad _) rfl) ?_ | refine lw_val rfl (run_assign (v := .nilIface) rfl) ?_
            refine lw_nil ?_
            refine cw_seq ?_
            refine cw_region ?_
            first | refine lw_val rfl (run_move (v := .pointer (some _)) rfl) ?_ | refine lw_val rfl (run_move (v := .pointer none) rfl) ?_
            refine lw_call rfl en40 (head_sl hE (hsm _) hs (by simp [oneSt]) (by simp [oneSt]) nY (head_two nYX l 3)) ?_
            clear hs
            rintro _ w ⟨rfl, hs⟩
            first | refine lw_val rfl (run_move (v := .tuple _) rfl) ?_
            first | refine lw_val rfl (run_extract (v := .int .i64 _) rfl rfl) ?_
            first | refine lw_val rfl (run_extract (v := .int .u32 _) rfl rfl) ?_
            first | refine lw_val rfl (run_extract (v := errV ad _) rfl rfl) ?_ | refine lw_val rfl (run_extract (v := .nilIface) rfl rfl) ?_
            first | refine lw_val rfl (run_assign (v := .int .i64 _) rfl) ?_
            first | refine lw_val rfl (run_assign (v := .int .u32 _) rfl) ?_
            first | refine lw_val rfl (run_assign (v := errV ad _) rfl) ?_ | refine lw_val rfl (run_assign (v := .nilIface) rfl) ?_
            refine lw_nil ?_
            refine cw_seq ?_
            refine cw_region ?_
            first | refine lw_val rfl (run_move (v := .pointer (some _)) rfl) ?_ | refine lw_val rfl (run_move (v := .pointer none) rfl) ?_
            refine lw_call rfl en39 (get_sl hE (hsm _) hs (by simp [oneSt]) (by simp [oneSt]) nY (inI (by decide) (by decide)) (inI (by decide) (by decide)) (get_two nYX l 4 0 0)) ?_
            clear hs
            rintro _ w ⟨a105, c105, rfl, hs⟩
            first | refine lw_val rfl (run_move (v := .tuple _) rfl) ?_
            first | refine lw_val rfl (run_extract (v := .slice _ _ _) rfl rfl) ?_
            first | refine lw_val rfl (run_extract (v := errV ad _) rfl rfl) ?_ | refine lw_val rfl (run_extract (v := .nilIface) rfl rfl) ?_
            first | refine lw_val rfl (run_assign (v := .slice _ _ _) rfl) ?_
            first | refine lw_val rfl (run_assign (v := errV ad _) rfl) ?_ | refine lw_val rfl (run_assign (v := .nilIface) rfl) ?_
            refine lw_nil ?_
            refine cw_seq ?_
            refine cw_region ?_
            first | refine lw_val rfl (run_move (v := .pointer (some _)) rfl) ?_ | refine lw_val rfl (run_move (v := .pointer none) rfl) ?_
            first | refine lw_val rfl (run_move (v := .slice _ _ _) rfl) ?_
            refine lw_val rfl (run_lenS Tryd.underlying27 rfl) ?_
            refine lw_call rfl en39 (get_sl hE (hsm _) (hs.pick 1 rfl) (by simp [oneSt]) (by simp [oneSt]) nX (inI (by decide) (by decide)) (inI (by omega) (by omega)) (get_all nX l 5)) ?_
            clear hs
            rintro _ w ⟨a112, c112, rfl, hs⟩
            first | refine lw_val rfl (run_move (v := .tuple _) rfl) ?_
            first | refine lw_val rfl (run_extract (v := .slice _ _ _) rfl rfl) ?_
            first | refine lw_val rfl (run_extract (v := errV ad _) rfl rfl) ?_ | refine lw_val rfl (run_extract (v := .nilIface) rfl rfl) ?_
            first | refine lw_val rfl (run_assign (v := .slice _ _ _) rfl) ?_
            first | refine lw_val rfl (run_assign (v := errV ad _) rfl) ?_ | refine lw_val rfl (run_assign (v := .nilIface) rfl) ?_
            refine lw_nil ?_
            refine cw_seq ?_
            refine cw_seq ?_
            refine cw_region ?_
            first | refine lw_val rfl (run_move (v := .slice _ _ _) rfl) ?_
            refine lw_val rfl (run_lenS Tryd.underlying27 rfl) ?_
            refine lw_val rfl (run_gtr rfl rfl) ?_
            refine lw_nil ?_
            refine cw_if rfl ?_ ?_
            · intro h117
              have g117 := of_decide_eq_true h117
              obtain ⟨x0, hx0⟩ : ∃ x0, l[0]? = some x0 := ⟨l[0]'(by omega), List.getElem?_eq_getElem _⟩
              obtain ⟨b0, o0, rfl, hcell⟩ := hs.ownCells 0 rfl (by rw [bytesL_len]; omega)
              refine cw_region ?_
              first | refine lw_val rfl (run_move (v := .slice _ _ _) rfl) ?_
              refine lw_val rfl (run_indexAddr Tryd.underlying27 sz5 rfl rfl (i := 0) rfl (by omega) rfl) ?_
              refine lw_val rfl (run_load Tryd.underlying5 rfl rfl (hcell 0 _ (bytesL_at hx0))) ?_
              refine lw_val rfl (run_bits (by simp) rfl rfl rfl) ?_
              refine lw_val rfl (run_indexAddr Tryd.underlying27 sz5 rfl rfl (i := 0) rfl (by omega) rfl) ?_
              refine lw_storeOwn (j := 0) (v := .int .u8 _) hs 0 rfl sz5 rfl rfl (by rw [bytesL_len]; omega) rfl rfl ?_
              clear hs
              intro w hs
              simp only [List.set_cons_zero] at hs
              refine lw_nil ?_
              refine cw_seq ?_
              refine cw_region ?_
              first | refine lw_val rfl (run_move (v := .pointer (some _)) rfl) ?_ | refine lw_val rfl (run_move (v := .pointer none) rfl) ?_
              refine lw_call rfl en24 (bytes_sl (hs.pick 1 rfl) (hsm _) nX (aget_one nX l 6)) ?_
              clear hs
              rintro _ w ⟨a125, c125, rfl, hs⟩
              first | refine lw_val rfl (run_move (v := .tuple _) rfl) ?_
              first | refine lw_val rfl (run_extract (v := .slice _ _ _) rfl rfl) ?_
              first | refine lw_val rfl (run_extract (v := .bool _) rfl rfl) ?_
              first | refine lw_val rfl (run_assign (v := .slice _ _ _) rfl) ?_
              first | refine lw_val rfl (run_assign (v := .bool _) rfl) ?_
              refine lw_nil ?_
              refine cw_seq ?_
              refine cw_region ?_
              first | refine lw_val rfl (run_move (v := errV ad _) rfl) ?_ | refine lw_val rfl (run_move (v := .nilIface) rfl) ?_
              first | refine lw_val rfl (run_eqerrn (ad := ad) rfl) ?_ | refine lw_val rfl (run_eqnn rfl) ?_
              first | refine lw_val rfl (run_move (v := .bool _) rfl) ?_
              refine lw_on rfl rfl (decide_eq_true rfl) ?_
              first | refine lw_val rfl (run_move (v := .int .i64 _) rfl) ?_
              refine lw_on rfl rfl (decide_eq_true rfl) ?_
              first | refine lw_val rfl (run_move (v := .slice _ _ _) rfl) ?_
              refine lw_on rfl rfl (decide_eq_true rfl) ?_
              refine lw_val rfl (run_lenS Tryd.underlying27 rfl) ?_
              refine lw_on rfl rfl (decide_eq_true rfl) ?_
              refine lw_val rfl (run_eqi rfl rfl) ?_
              first | refine lw_val rfl (run_pickT (v := .bool _) rfl (decide_eq_true rfl) rfl) ?_
              first | refine lw_val rfl (run_move (v := .bool _) rfl) ?_
              refine lw_on rfl rfl (decide_eq_true rfl) ?_
              first | refine lw_val rfl (run_move (v := errV ad _) rfl) ?_ | refine lw_val rfl (run_move (v := .nilIface) rfl) ?_
              refine lw_on rfl rfl (decide_eq_true rfl) ?_
              refine lw_call rfl en25 (is_sl hA hs (d := 107) (.inr (by decide)) _) ?_
              clear hs
              rintro _ w ⟨rfl, hs⟩
              first | refine lw_val rfl (run_pickT (v := .bool _) rfl (decide_eq_true rfl) rfl) ?_
              first | refine lw_val rfl (run_move (v := .bool _) rfl) ?_
              refine lw_on rfl rfl (decide_eq_true rfl) ?_
              first | refine lw_val rfl (run_move (v := errV ad _) rfl) ?_ | refine lw_val rfl (run_move (v := .nilIface) rfl) ?_
              refine lw_on rfl rfl (decide_eq_true rfl) ?_
              refine lw_call rfl en25 (is_sl hA hs (d := 107) (.inr (by decide)) _) ?_
              clear hs
              rintro _ w ⟨rfl, hs⟩
              first | refine lw_val rfl (run_pickT (v := .bool _) rfl (decide_eq_true rfl) rfl) ?_
              first | refine lw_val rfl (run_move (v := .bool _) rfl) ?_
              refine lw_on rfl rfl (decide_eq_true rfl) ?_
              first | refine lw_val rfl (run_move (v := errV ad _) rfl) ?_ | refine lw_val rfl (run_move (v := .nilIface) rfl) ?_
              refine lw_on rfl rfl (decide_eq_true rfl) ?_
              first | refine lw_val rfl (run_eqerrn (ad := ad) rfl) ?_ | refine lw_val rfl (run_eqnn rfl) ?_
              first | refine lw_val rfl (run_pickT (v := .bool _) rfl (decide_eq_true rfl) rfl) ?_
              first | refine lw_val rfl (run_move (v := .bool _) rfl) ?_
              refine lw_on rfl rfl (decide_eq_true rfl) ?_
              first | refine lw_val rfl (run_move (v := .bool _) rfl) ?_
              first | refine lw_val rfl (run_pickT (v := .bool _) rfl (decide_eq_true rfl) rfl) ?_
              first | refine lw_val rfl (run_move (v := .bool _) rfl) ?_
              refine lw_on rfl rfl (rfl) ?_
              first | refine lw_val rfl (run_move (v := .slice _ _ _) rfl) ?_
              refine lw_on rfl rfl (rfl) ?_
              first | refine lw_val rfl (run_move (v := .slice _ _ _) rfl) ?_
              refine lw_on rfl rfl (rfl) ?_
              refine lw_call rfl en38 (sameB_sl (la := l) (lb := l) hs (Rd.own 0 rfl) (hb.rd _) rfl rfl (by omega)) ?_
              clear hs
              rintro _ w ⟨rfl, hs⟩
              first | refine lw_val rfl (run_pickT (v := .bool _) rfl (rfl) rfl) ?_
              first | refine lw_val rfl (run_assign (v := .bool _) rfl) ?_
              refine lw_nil ?_
              refine cw_ret ?_
              refine res1 (v := .bool _) rfl rfl ?_
              exact ⟨_, rfl, ret_b (decide_eq_true rfl), hs.nil⟩
            · intro h117
              have g117 := of_decide_eq_false h117
              refine cw_skip ?_
              refine cw_seq ?_
              refine cw_region ?_
              first | refine lw_val rfl (run_move (v := .pointer (some _)) rfl) ?_ | refine lw_val rfl (run_move (v := .pointer none) rfl) ?_
              refine lw_call rfl en24 (bytes_sl (hs.pick 1 rfl) (hsm _) nX (aget_one nX l 6)) ?_
              clear hs
              rintro _ w ⟨a125, c125, rfl, hs⟩
              first | refine lw_val rfl (run_move (v := .tuple _) rfl) ?_
              first | refine lw_val rfl (run_extract (v := .slice _ _ _) rfl rfl) ?_
              first | refine lw_val rfl (run_extract (v := .bool _) rfl rfl) ?_
              first | refine lw_val rfl (run_assign (v := .slice _ _ _) rfl) ?_
              first | refine lw_val rfl (run_assign (v := .bool _) rfl) ?_
              refine lw_nil ?_
              refine cw_seq ?_
              refine cw_region ?_
              first | refine lw_val rfl (run_move (v := errV ad _) rfl) ?_ | refine lw_val rfl (run_move (v := .nilIface) rfl) ?_
              first | refine lw_val rfl (run_eqerrn (ad := ad) rfl) ?_ | refine lw_val rfl (run_eqnn rfl) ?_
              first | refine lw_val rfl (run_move (v := .bool _) rfl) ?_
              refine lw_on rfl rfl (decide_eq_true rfl) ?_
              first | refine lw_val rfl (run_move (v := .int .i64 _) rfl) ?_
              refine lw_on rfl rfl (decide_eq_true rfl) ?_
              first | refine lw_val rfl (run_move (v := .slice _ _ _) rfl) ?_
              refine lw_on rfl rfl (decide_eq_true rfl) ?_
              refine lw_val rfl (run_lenS Tryd.underlying27 rfl) ?_
              refine lw_on rfl rfl (decide_eq_true rfl) ?_
              refine lw_val rfl (run_eqi rfl rfl) ?_
              first | refine lw_val rfl (run_pickT (v := .bool _) rfl (decide_eq_true rfl) rfl) ?_
              first | refine lw_val rfl (run_move (v := .bool _) rfl) ?_
              refine lw_on rfl rfl (decide_eq_true rfl) ?_
              first | refine lw_val rfl (run_move (v := errV ad _) rfl) ?_ | refine lw_val rfl (run_move (v := .nilIface) rfl) ?_
              refine lw_on rfl rfl (decide_eq_true rfl) ?_
              refine lw_call rfl en25 (is_sl hA hs (d := 107) (.inr (by decide)) _) ?_
              clear hs
              rintro _ w ⟨rfl, hs⟩
              first | refine lw_val rfl (run_pickT (v := .bool _) rfl (decide_eq_true rfl) rfl) ?_
              first | refine lw_val rfl (run_move (v := .bool _) rfl) ?_
              refine lw_on rfl rfl (decide_eq_true rfl) ?_
              first | refine lw_val rfl (run_move (v := errV ad _) rfl) ?_ | refine lw_val rfl (run_move (v := .nilIface) rfl) ?_
              refine lw_on rfl rfl (decide_eq_true rfl) ?_
              refine lw_call rfl en25 (is_sl hA hs (d := 107) (.inr (by decide)) _) ?_
              clear hs
              rintro _ w ⟨rfl, hs⟩
              first | refine lw_val rfl (run_pickT (v := .bool _) rfl (decide_eq_true rfl) rfl) ?_
              first | refine lw_val rfl (run_move (v := .bool _) rfl) ?_
              refine lw_on rfl rfl (decide_eq_true rfl) ?_
              first | refine lw_val rfl (run_move (v := errV ad _) rfl) ?_ | refine lw_val rfl (run_move (v := .nilIface) rfl) ?_
              refine lw_on rfl rfl (decide_eq_true rfl) ?_
              first | refine lw_val rfl (run_eqerrn (ad := ad) rfl) ?_ | refine lw_val rfl (run_eqnn rfl) ?_
              first | refine lw_val rfl (run_pickT (v := .bool _) rfl (decide_eq_true rfl) rfl) ?_
              first | refine lw_val rfl (run_move (v := .bool _) rfl) ?_
              refine lw_on rfl rfl (decide_eq_true rfl) ?_
              first | refine lw_val rfl (run_move (v := .bool _) rfl) ?_
              first | refine lw_val rfl (run_pickT (v := .bool _) rfl (decide_eq_true rfl) rfl) ?_
              first | refine lw_val rfl (run_move (v := .bool _) rfl) ?_
              refine lw_on rfl rfl (rfl) ?_
              first | refine lw_val rfl (run_move (v := .slice _ _ _) rfl) ?_
              refine lw_on rfl rfl (rfl) ?_
              first | refine lw_val rfl (run_move (v := .slice _ _ _) rfl) ?_
              refine lw_on rfl rfl (rfl) ?_
              refine lw_call rfl en38 (sameB_sl (la := l) (lb := l) hs (Rd.own 0 rfl) (hb.rd _) rfl rfl (by omega)) ?_
              clear hs
              rintro _ w ⟨rfl, hs⟩
              first | refine lw_val rfl (run_pickT (v := .bool _) rfl (rfl) rfl) ?_
              first | refine lw_val rfl (run_assign (v := .bool _) rfl) ?_
              refine lw_nil ?_
              refine cw_ret ?_
              refine res1 (v := .bool _) rfl rfl ?_
              exact ⟨_, rfl, ret_b (decide_eq_true rfl), hs.nil⟩
end Go.Proofs.YtjiigajekminaaaDoor
