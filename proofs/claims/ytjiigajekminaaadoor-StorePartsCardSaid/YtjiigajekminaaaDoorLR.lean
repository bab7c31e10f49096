/- StoreRanges: the walk. -/
import Derived.Test.YtjiigajekminaaaDoorT2
import Derived.Test.YtjiigajekminaaaDoorLawA
namespace Go.Proofs.YtjiigajekminaaaDoor
set_option linter.all false
open Go.RowKit
attribute [local irreducible] errV
variable {g w : World} {L M : List HP} {ad : Nat → Addr} {p : Nat} {st : St}

theorem u8v_inj {a b : UInt8} (h : ((a.toNat : Nat) : Int) = ((b.toNat : Nat) : Int)) : a = b := UInt8.toNat_inj.1 (by omega)
theorem bytesL_at {l : List UInt8} {k : Nat} {x : UInt8} (h : l[k]? = some x) : (bytesL l)[k]? = some (.int .u8 (x.toNat : Nat)) := by simp [bytesL, u8v, h]
theorem sameB_sl (hs : Mem g w L) {a b : Option Addr} {n m c d : Nat} {la lb : List UInt8} (ha : Rd g L (.slice a n c) (bytesL la)) (hb : Rd g L (.slice b m d) (bytesL lb)) (hn : n = la.length) (hm : m = lb.length) (hlen : la.length ≤ 1073741824) :
    Calls Tryd.prog 38 #[.slice a n c, .slice b m d] w (Ret fun v w' => v = .bool (decide (la = lb)) ∧ Mem g w' L) := by
  subst hn hm
  refine calls_cw Tryd.func38 rfl rfl ?_
  skip
  refine cw_seq ?_
  refine cw_region ?_
  first | refine lw_val rfl (run_assign (v := .bool _) rfl) ?_
  refine lw_nil ?_
  refine cw_seq ?_
  refine cw_seq ?_
  refine cw_region ?_
  first | refine lw_val rfl (run_move (v := .slice _ _ _) rfl) ?_
  refine lw_val rfl (run_lenS Tryd.underlying27 rfl) ?_
  first | refine lw_val rfl (run_move (v := .slice _ _ _) rfl) ?_
  refine lw_val rfl (run_lenS Tryd.underlying27 rfl) ?_
  refine lw_val rfl (run_nei rfl rfl) ?_
  refine lw_nil ?_
  refine cw_if rfl ?_ ?_
  · intro h11
    have g11 := ne_t h11
    refine cw_seq ?_
    refine cw_region ?_
    first | refine lw_val rfl (run_assign (v := .bool _) rfl) ?_
    refine lw_nil ?_
    refine cw_ret ?_
    refine res1 (v := .bool _) rfl rfl ?_
    exact ⟨_, rfl, ret_b (by rw [decide_eq_false (fun e => g11 (by rw [e]))]), hs⟩
  · intro h11
    have g11 := ne_f h11
    refine cw_skip ?_
    refine cw_seq ?_
    refine cw_seq ?_
    refine cw_region ?_
    first | refine lw_val rfl (run_assign (v := .int .i64 _) rfl) ?_
    refine lw_nil ?_
    refine cw_block ?_
    refine cw_loop (X := Nat) [4, 5, 6, 12, 13, 14, 15, 16, 17, 18, 19, 20, 21, 22, 23, 24, 25, 26, 27, 28] (fun k => [(5, .int .i64 (k : Nat))]) (fun k w => k ≤ la.length ∧ la.take k = lb.take k ∧ Mem g w L) (fun k => la.length - k) (0) ?_ ?_ ?_
    · exact ⟨rfl, trivial⟩
    · exact ⟨Nat.zero_le _, rfl, hs⟩
    clear hs
    rintro x ξ w hI
    obtain ⟨hk, hq, hs⟩ := hI
    refine cw_seq ?_
    refine cw_seq ?_
    refine cw_region ?_
    first | refine lw_val rfl (run_move (v := .int .i64 _) rfl) ?_
    first | refine lw_val rfl (run_move (v := .slice _ _ _) rfl) ?_
    refine lw_val rfl (run_lenS Tryd.underlying27 rfl) ?_
    refine lw_val rfl (run_lss rfl rfl) ?_
    refine lw_nil ?_
    refine cw_if rfl ?_ ?_
    · intro h15
      have g15 := of_decide_eq_true h15
      obtain ⟨xa, hxa⟩ : ∃ xa, la[x]? = some xa := ⟨la[x]'(by omega), List.getElem?_eq_getElem _⟩
      obtain ⟨xb, hxb⟩ : ∃ xb, lb[x]? = some xb := ⟨lb[x]'(by omega), List.getElem?_eq_getElem _⟩
      obtain ⟨b1, o1, rfl, _⟩ := ha.cells' hs (by rw [bytesL_len]; omega)
      obtain ⟨b2, o2, rfl, _⟩ := hb.cells' hs (by rw [bytesL_len]; omega)
      refine cw_skip ?_
      refine cw_seq ?_
      refine cw_block ?_
      refine cw_seq ?_
      refine cw_drawS mixes hs ?_
      intro w tr hK
      replace hs := tr _ hs
      clear tr
      first | refine aw_take 0 rfl (by kernel_rfl) (by kernel_rfl) (by kernel_rfl) rfl (fun w hs => run_move (v := .slice _ _ _) rfl) hK ?_
      first | refine aw_take 1 rfl (by kernel_rfl) (by kernel_rfl) (by kernel_rfl) rfl (fun w hs => run_move (v := .int .i64 _) rfl) hK ?_
      refine aw_take 2 rfl (by kernel_rfl) (by kernel_rfl) (by kernel_rfl) rfl (fun w hs => run_indexAddr Tryd.underlying27 sz5 rfl rfl rfl (by omega) rfl) hK ?_
      refine aw_take 3 rfl (by kernel_rfl) (by kernel_rfl) (by kernel_rfl) rfl (fun w hs => run_load Tryd.underlying5 rfl rfl (ha.cellAt hs (bytesL_at hxa))) hK ?_
      first | refine aw_take 4 rfl (by kernel_rfl) (by kernel_rfl) (by kernel_rfl) rfl (fun w hs => run_move (v := .slice _ _ _) rfl) hK ?_
      first | refine aw_take 5 rfl (by kernel_rfl) (by kernel_rfl) (by kernel_rfl) rfl (fun w hs => run_move (v := .int .i64 _) rfl) hK ?_
      refine aw_take 6 rfl (by kernel_rfl) (by kernel_rfl) (by kernel_rfl) rfl (fun w hs => run_indexAddr Tryd.underlying27 sz5 rfl rfl rfl (by omega) rfl) hK ?_
      refine aw_take 7 rfl (by kernel_rfl) (by kernel_rfl) (by kernel_rfl) rfl (fun w hs => run_load Tryd.underlying5 rfl rfl (hb.cellAt hs (bytesL_at hxb))) hK ?_
      refine aw_take 8 rfl (by kernel_rfl) (by kernel_rfl) (by kernel_rfl) rfl (fun w hs => run_eqi rfl rfl) hK ?_
      first | refine aw_take 9 rfl (by kernel_rfl) (by kernel_rfl) (by kernel_rfl) rfl (fun w hs => run_assign (v := .bool _) rfl) hK ?_
      refine aw_done (by kernel_rfl) ?_
      clear hK
      refine cw_seq ?_
      refine cw_region ?_
      first | refine lw_val rfl (run_move (v := .bool _) rfl) ?_
      refine lw_val rfl (run_not rfl) ?_
      refine lw_nil ?_
      refine cw_if rfl ?_ ?_
      · intro h26
        replace h26 := not_b h26
        have g26 := of_decide_eq_false h26
        refine cw_seq ?_
        refine cw_region ?_
        first | refine lw_val rfl (run_assign (v := .bool _) rfl) ?_
        refine lw_nil ?_
        refine cw_ret ?_
        refine res1 (v := .bool _) rfl rfl ?_
        exact ⟨_, rfl, ret_b (by rw [decide_eq_false (fun e => by subst e; rw [hxa] at hxb; cases hxb; exact g26 rfl)]), hs⟩
      · intro h26
        replace h26 := not_c h26
        have g26 := of_decide_eq_true h26
        refine cw_skip ?_
        refine cw_region ?_
        first | refine lw_val rfl (run_move (v := .int .i64 _) rfl) ?_
        refine lw_val rfl (run_add64 rfl rfl rfl (inI (by omega) (by omega))) ?_
        first | refine lw_val rfl (run_assign (v := .int .i64 _) rfl) ?_
        refine lw_nil ?_
        exact ⟨x + 1, by omega, ⟨by omega, by rw [List.take_add_one, List.take_add_one, hxa, hxb, hq, u8v_inj g26], hs⟩, ⟨rfl, trivial⟩, by repeat (first | exact Out.mix _ _ _ | refine Out.updo rfl ?_ | refine Out.upd rfl ?_)⟩
    · intro h15
      have g15 := of_decide_eq_false h15
      refine cw_exit rfl ?_
      refine cw_seq ?_
      refine cw_region ?_
      first | refine lw_val rfl (run_assign (v := .bool _) rfl) ?_
      refine lw_nil ?_
      refine cw_ret ?_
      refine res1 (v := .bool _) rfl rfl ?_
      have h1 : x = la.length := by omega
      rw [h1, List.take_of_length_le (Nat.le_refl _), List.take_of_length_le (by omega)] at hq
      exact ⟨_, rfl, ret_b (decide_eq_true hq).symm, hs⟩

theorem first11_sl (hE : ErrA ad g) (hs : Mem g w L) : Calls Tryd.prog 20 #[] w (Ret fun v w' => v = .bool true ∧ Mem g w' L) := hs.calls (first11_any (hE.atW hs) hs.size)
theorem run_ok {st : St} (h : st.script = []) (good : St → Nat × St) : st.run good = good { st with calls := st.calls + 1 } := by
  have h1 : st.next = 0 := by simp [St.next, h]
  have h2 : st.begin = { st with calls := st.calls + 1 } := by simp [St.begin, St.next, h]
  simp [St.run, h1, h2]
theorem head_ok {st : St} (h : st.script = []) (n : ByteArray) : st.headR n = match aget st.objs n with | some b => ((b.length : Int), ((crcMore 0 b : Nat) : Int), 0, { st with calls := st.calls + 1 }) | none => (0, 0, 107, { st with calls := st.calls + 1 }) := by
  have h1 : st.next = 0 := by simp [St.next, h]
  have h2 : st.begin = { st with calls := st.calls + 1 } := by simp [St.begin, St.next, h]
  cases ho : aget st.objs n <;> simp [St.headR, h1, h2, St.head1, ho]
theorem get_ok {st : St} (h : st.script = []) (n : ByteArray) (off m : Int) : st.getR n off m = ((st.get1 n off m).2, (st.get1 n off m).1, { st with calls := st.calls + 1 }) := by
  have h1 : st.next = 0 := by simp [St.next, h]
  have h2 : st.begin = { st with calls := st.calls + 1 } := by simp [St.begin, St.next, h]
  unfold St.getR
  rw [if_neg (by omega), h2]
  rfl
def nX : ByteArray := ⟨#[120]⟩
def nY : ByteArray := ⟨#[121]⟩
theorem nX_valid : validB nX.data.toList = true := by decide +kernel
theorem nYX : nX ≠ nY := by decide +kernel
/-- The store with one object, behind k calls. -/
def oneSt (n : ByteArray) (l : List UInt8) (k : Nat) : St := { objs := [(n, l)], ups := [], ids := 0, script := [], calls := k, failed := 0 }
theorem oneSt_small (n : ByteArray) {l : List UInt8} (h : l.length ≤ 1000) (k : Nat) : (oneSt n l k).small := ⟨fun m b hm => by simp [oneSt] at hm; rw [hm.2]; omega, fun i u h => by simp [oneSt] at h⟩
theorem put_first {n : ByteArray} (h : validB n.data.toList = true) (l : List UInt8) : St.empty.run (St.put1 n l) = (0, oneSt n l 1) := by
  rw [run_ok rfl]; simp [St.put1, h, St.empty, oneSt, aput]
theorem aget_one (n : ByteArray) (l : List UInt8) (k : Nat) : aget (oneSt n l k).objs n = some l := by simp [oneSt, aget]
theorem aget_two {n m : ByteArray} (h : n ≠ m) (l : List UInt8) (k : Nat) : aget (oneSt n l k).objs m = none := by simp [oneSt, aget, h]

theorem head_one (n : ByteArray) (l : List UInt8) (k : Nat) : (oneSt n l k).headR n = ((l.length : Int), ((crcMore 0 l : Nat) : Int), 0, oneSt n l (k + 1)) := by rw [head_ok rfl, aget_one]; rfl
theorem head_two {n m : ByteArray} (h : n ≠ m) (l : List UInt8) (k : Nat) : (oneSt n l k).headR m = (0, 0, 107, oneSt n l (k + 1)) := by rw [head_ok rfl, aget_two h]; rfl
theorem get_two {n m : ByteArray} (h : n ≠ m) (l : List UInt8) (k : Nat) (i j : Int) : (oneSt n l k).getR m i j = ([], 107, oneSt n l (k + 1)) := by rw [get_ok rfl]; simp only [St.get1, aget_two h]; rfl
theorem get_all (n : ByteArray) (l : List UInt8) (k : Nat) : (oneSt n l k).getR n 0 (l.length : Nat) = (l, 0, oneSt n l (k + 1)) := by
  rw [get_ok rfl]; simp only [St.get1, aget_one]; rw [if_neg (by omega)]; simp; rfl
end Go.Proofs.YtjiigajekminaaaDoor
