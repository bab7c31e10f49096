/- Contracts over chunks that every seat wants. -/
import Derived.Test.YtkogkokmcmallaaGreatDoorZb
import Derived.Test.YtkogkokmcmallaaGreatDoorTy
import Derived.Test.YtkogkokmcmallaaGreatDoorZa
namespace Go.Proofs.YtkogkokmcmallaaGreatDoor
set_option linter.all false
open Go.RowKit
attribute [local irreducible] errV
variable {g w : World} {L : List HP} {ad : Nat → Addr}

theorem is_sl (hE : ErrA ad g) (hs : Mem g w L) {d : Nat} (hd : d = 0 ∨ d ∈ coreCodes) (c : Int) : Calls Tryz.prog 23 #[errV ad d, .int .i64 c] w (Ret fun v w' => v = .bool (decide ((d : Int) = c)) ∧ Mem g w' L) := by
  have := hs.calls (is_any (hE.atW hs) hs.size (hd.imp id core_all) c)
  rw [int_beq] at this
  exact this
/-- A statement's walk, as its row wants it. -/
theorem law_of {f : FuncId} {args : Array Value} (h : Calls Tryz.prog f args w (Ret fun v w' => v = .bool true ∧ Mem w w' [])) : Calls Tryz.prog f args w (BoolNew true w) :=
  h.mono fun _ _ ⟨v, h1, h2, h3⟩ => ⟨by rw [h1, h2], h3.below0⟩
theorem wfI {a : Int} (h : (Lit.int .i64 a).wf = true) : InI64 a := by
  simp only [Lit.wf, Bool.and_eq_true, decide_eq_true_eq] at h
  exact h
theorem Came.bytes {a : Option Addr} {n c : Nat} {l : List UInt8} (h : seqV w (.slice a n c) (bytesL l)) (hb : ∀ b, blk (.slice a n c) = some b → b < w.heap.size) : Came w (.slice a n c) (bytesL l) ∧ n = l.length := ⟨⟨h, hb⟩, by have := h.len; simpa [bytesL] using this.symm⟩
theorem Came.ints {a : Option Addr} {n c : Nat} {l : List Int} (h : seqV w (.slice a n c) (intsL l)) (hb : ∀ b, blk (.slice a n c) = some b → b < w.heap.size) : Came w (.slice a n c) (intsL l) ∧ n = l.length := ⟨⟨h, hb⟩, by have := h.len; simpa [intsL] using this.symm⟩
theorem valid_sl (hs : Mem g w L) (s : ByteArray) : Calls Tryz.prog 93 #[.string s] w (Ret fun v w' => v = .bool (validB s.data.toList) ∧ Mem g w' L) := hs.callsE (valid_any s w)
/-- A new slice. -/
theorem newSeq_sl {f : FuncId} {args : Array Value} {l : List Value} (hs : Mem g w L) (h : Calls Tryz.prog f args w (NewSeq w l)) : Calls Tryz.prog f args w (Ret fun v w' => ∃ a c, v = .slice a l.length c ∧ Mem g w' (own (.slice a l.length c) l :: L)) :=
  h.mono fun _ w' ⟨v, h1, h2, h3, h4⟩ => by
    obtain ⟨a, n, c, rfl, hn, hr⟩ := id h2
    subst hn
    exact ⟨_, h1, a, c, rfl, hs.add (F' := fun b => blk (.slice a l.length c) = some b) ⟨h2, fun _ => Iff.rfl⟩ (fun b hb => (h4 b hb).1) (Keeps.of_below h3 _)⟩
theorem clone_sl (hs : Mem g w L) {v : Value} {l : List UInt8} (h : Rd g L v (bytesL l)) (hl : l.length ≤ 1073741824) : Calls Tryz.prog 94 #[v] w (Ret fun v w' => ∃ a c, v = .slice a (bytesL l).length c ∧ Mem g w' (own (.slice a (bytesL l).length c) (bytesL l) :: L)) :=
  newSeq_sl hs (clone_bytes v _ w (h.seq hs) (bytesL_one l) (by simpa [bytesL] using hl))
theorem Rd.subB {a : Option Addr} {m c lo hi : Nat} {l : List UInt8} (h : Rd g L (.slice a m c) (bytesL l)) (h1 : lo ≤ hi) (h2 : hi ≤ m) : Rd g L (subS a c lo hi) (bytesL ((l.take hi).drop lo)) := by
  have := h.sub h1 h2
  simpa [bytesL] using this
theorem bytesL_len (b : List UInt8) : (bytesL b).length = b.length := by simp [bytesL]

theorem u8v_inj {a b : UInt8} (h : ((a.toNat : Nat) : Int) = ((b.toNat : Nat) : Int)) : a = b := UInt8.toNat_inj.1 (by omega)
theorem bytesL_at {l : List UInt8} {k : Nat} {x : UInt8} (h : l[k]? = some x) : (bytesL l)[k]? = some (.int .u8 (x.toNat : Nat)) := by simp [bytesL, u8v, h]
theorem sameB_sl (hs : Mem g w L) {a b : Option Addr} {n m c d : Nat} {la lb : List UInt8} (ha : Rd g L (.slice a n c) (bytesL la)) (hb : Rd g L (.slice b m d) (bytesL lb)) (hn : n = la.length) (hm : m = lb.length) (hlen : la.length ≤ 1073741824) :
    Calls Tryz.prog 39 #[.slice a n c, .slice b m d] w (Ret fun v w' => v = .bool (decide (la = lb)) ∧ Mem g w' L) := by
  subst hn hm
  refine calls_cw Tryz.func39 rfl rfl ?_
  skip
  refine cw_seq ?_
  refine cw_region ?_
  refine lw_val rfl (run_assign (v := .bool _) rfl) ?_
  refine lw_nil ?_
  refine cw_seq ?_
  refine cw_seq ?_
  refine cw_region ?_
  refine lw_val rfl (run_move (v := .slice _ _ _) rfl) ?_
  refine lw_val rfl (run_lenS Tryz.underlying64 rfl) ?_
  refine lw_val rfl (run_move (v := .slice _ _ _) rfl) ?_
  refine lw_val rfl (run_lenS Tryz.underlying64 rfl) ?_
  refine lw_val rfl (run_nei rfl rfl) ?_
  refine lw_nil ?_
  refine cw_if rfl ?_ ?_
  · intro h11
    have g11 := ne_t h11
    refine cw_seq ?_
    refine cw_region ?_
    refine lw_val rfl (run_assign (v := .bool _) rfl) ?_
    refine lw_nil ?_
    refine cw_ret ?_
    refine res1 (v := .bool _) rfl rfl ?_
    exact ⟨_, rfl, ret_b (by rw [decide_eq_false (fun e => g11 (by rw [e]))]), hs⟩
  · intro h11
    have g11 := ne_f h11
    refine cw_skip ?_
    refine cw_seq ?_
    refine cw_seq ?_
    refine cw_region ?_
    refine lw_val rfl (run_assign (v := .int .i64 _) rfl) ?_
    refine lw_nil ?_
    refine cw_block ?_
    refine cw_loop (X := Nat) [4, 5, 6, 12, 13, 14, 15, 16, 17, 18, 19, 20, 21, 22, 23, 24, 25, 26, 27, 28] (fun k => [(5, .int .i64 (k : Nat))]) (fun k w => k ≤ la.length ∧ la.take k = lb.take k ∧ Mem g w L) (fun k => la.length - k) (0) ?_ ?_ ?_
    · exact ⟨rfl, trivial⟩
    · exact ⟨Nat.zero_le _, rfl, hs⟩
    clear hs
    rintro x ξ w hI
    obtain ⟨hk, hq, hs⟩ := hI
    refine cw_seq ?_
    refine cw_seq ?_
    refine cw_region ?_
    refine lw_val rfl (run_move (v := .int .i64 _) rfl) ?_
    refine lw_val rfl (run_move (v := .slice _ _ _) rfl) ?_
    refine lw_val rfl (run_lenS Tryz.underlying64 rfl) ?_
    refine lw_val rfl (run_lss rfl rfl) ?_
    refine lw_nil ?_
    refine cw_if rfl ?_ ?_
    · intro h15
      have g15 := of_decide_eq_true h15
      obtain ⟨xa, hxa⟩ : ∃ xa, la[x]? = some xa := ⟨la[x]'(by omega), List.getElem?_eq_getElem _⟩
      obtain ⟨xb, hxb⟩ : ∃ xb, lb[x]? = some xb := ⟨lb[x]'(by omega), List.getElem?_eq_getElem _⟩
      obtain ⟨b1, o1, rfl, _⟩ := ha.cells' hs (by rw [bytesL_len]; omega)
      obtain ⟨b2, o2, rfl, _⟩ := hb.cells' hs (by rw [bytesL_len]; omega)
      refine cw_skip ?_
      refine cw_seq ?_
      refine cw_block ?_
      refine cw_seq ?_
      refine cw_drawS mixes hs ?_
      intro w tr hK
      replace hs := tr _ hs
      clear tr
      refine aw_take 0 rfl (by kernel_rfl) (by kernel_rfl) (by kernel_rfl) rfl (fun w hs => run_move (v := .slice _ _ _) rfl) hK ?_
      refine aw_take 1 rfl (by kernel_rfl) (by kernel_rfl) (by kernel_rfl) rfl (fun w hs => run_move (v := .int .i64 _) rfl) hK ?_
      refine aw_take 2 rfl (by kernel_rfl) (by kernel_rfl) (by kernel_rfl) rfl (fun w hs => run_indexAddr Tryz.underlying64 sz5 rfl rfl rfl (by omega) rfl) hK ?_
      refine aw_take 3 rfl (by kernel_rfl) (by kernel_rfl) (by kernel_rfl) rfl (fun w hs => run_load Tryz.underlying5 rfl rfl (ha.cellAt hs (bytesL_at hxa))) hK ?_
      refine aw_take 4 rfl (by kernel_rfl) (by kernel_rfl) (by kernel_rfl) rfl (fun w hs => run_move (v := .slice _ _ _) rfl) hK ?_
      refine aw_take 5 rfl (by kernel_rfl) (by kernel_rfl) (by kernel_rfl) rfl (fun w hs => run_move (v := .int .i64 _) rfl) hK ?_
      refine aw_take 6 rfl (by kernel_rfl) (by kernel_rfl) (by kernel_rfl) rfl (fun w hs => run_indexAddr Tryz.underlying64 sz5 rfl rfl rfl (by omega) rfl) hK ?_
      refine aw_take 7 rfl (by kernel_rfl) (by kernel_rfl) (by kernel_rfl) rfl (fun w hs => run_load Tryz.underlying5 rfl rfl (hb.cellAt hs (bytesL_at hxb))) hK ?_
      refine aw_take 8 rfl (by kernel_rfl) (by kernel_rfl) (by kernel_rfl) rfl (fun w hs => run_eqi rfl rfl) hK ?_
      refine aw_take 9 rfl (by kernel_rfl) (by kernel_rfl) (by kernel_rfl) rfl (fun w hs => run_assign (v := .bool _) rfl) hK ?_
      refine aw_done (by kernel_rfl) ?_
      clear hK
      refine cw_seq ?_
      refine cw_region ?_
      refine lw_val rfl (run_move (v := .bool _) rfl) ?_
      refine lw_val rfl (run_not rfl) ?_
      refine lw_nil ?_
      refine cw_if rfl ?_ ?_
      · intro h26
        replace h26 := not_b h26
        have g26 := of_decide_eq_false h26
        refine cw_seq ?_
        refine cw_region ?_
        refine lw_val rfl (run_assign (v := .bool _) rfl) ?_
        refine lw_nil ?_
        refine cw_ret ?_
        refine res1 (v := .bool _) rfl rfl ?_
        exact ⟨_, rfl, ret_b (by rw [decide_eq_false (fun e => by subst e; rw [hxa] at hxb; cases hxb; exact g26 rfl)]), hs⟩
      · intro h26
        replace h26 := not_c h26
        have g26 := of_decide_eq_true h26
        refine cw_skip ?_
        refine cw_region ?_
        refine lw_val rfl (run_move (v := .int .i64 _) rfl) ?_
        refine lw_val rfl (run_add64 rfl rfl rfl (inI (by omega) (by omega))) ?_
        refine lw_val rfl (run_assign (v := .int .i64 _) rfl) ?_
        refine lw_nil ?_
        exact ⟨x + 1, by omega, ⟨by omega, by rw [List.take_add_one, List.take_add_one, hxa, hxb, hq, u8v_inj g26], hs⟩, ⟨rfl, trivial⟩, by repeat (first | exact Out.mix _ _ _ | refine Out.updo rfl ?_ | refine Out.upd rfl ?_ | refine Out.mixIn rfl ?_)⟩
    · intro h15
      have g15 := of_decide_eq_false h15
      refine cw_exit rfl ?_
      refine cw_seq ?_
      refine cw_region ?_
      refine lw_val rfl (run_assign (v := .bool _) rfl) ?_
      refine lw_nil ?_
      refine cw_ret ?_
      refine res1 (v := .bool _) rfl rfl ?_
      have h1 : x = la.length := by omega
      rw [h1, List.take_of_length_le (Nat.le_refl _), List.take_of_length_le (by omega)] at hq
      exact ⟨_, rfl, ret_b (decide_eq_true hq).symm, hs⟩

theorem intsL_at {l : List Int} {k : Nat} {x : Int} (h : l[k]? = some x) : (intsL l)[k]? = some (.int .i64 x) := by simp [intsL, h]
theorem intsL_len (l : List Int) : (intsL l).length = l.length := by simp [intsL]
theorem Mem.rdOwn {v : Value} {l : List Value} (hs : Mem g w L) (i : Nat) (hi : L[i]? = some (own v l)) : Rd g L v l := Rd.own i hi
theorem bytesL_app (l m : List UInt8) : bytesL (l ++ m) = bytesL l ++ bytesL m := by simp [bytesL]
theorem intsL_app (l m : List Int) : intsL (l ++ m) = intsL l ++ intsL m := by simp [intsL]
theorem number_sl (hs : Mem g w L) (n b : Int) (hb : 0 < b ∧ b < 1000) : Calls Tryz.prog 17 #[.int .i64 n, .int .i64 b] w (Ret fun v w' => ∃ r : Nat, (r : Int) < b ∧ v = .int .i64 (r : Nat) ∧ Mem g w' L) := by
  have h1 := Int.tmod_lt_of_pos n hb.1
  have h2 : -b < n.tmod b := by have h3 := Int.natAbs_tmod n b; have h4 := Nat.mod_lt n.natAbs (y := b.natAbs) (by omega); omega
  refine calls_cw Tryz.func17 rfl rfl ?_
  skip
  refine cw_seq ?_
  refine cw_region ?_
  refine lw_val rfl (run_assign (v := .int .i64 _) rfl) ?_
  refine lw_nil ?_
  refine cw_seq ?_
  refine cw_region ?_
  refine lw_val rfl (run_move (v := .int .i64 _) rfl) ?_
  refine lw_val rfl (run_move (v := .int .i64 _) rfl) ?_
  refine lw_val rfl (run_rem rfl rfl (by omega)) ?_
  refine lw_val rfl (run_assign (v := .int .i64 _) rfl) ?_
  refine lw_nil ?_
  refine cw_seq ?_
  refine cw_seq ?_
  refine cw_region ?_
  refine lw_val rfl (run_move (v := .int .i64 _) rfl) ?_
  refine lw_val rfl (run_lss rfl rfl) ?_
  refine lw_nil ?_
  refine cw_if rfl ?_ ?_
  · intro h10
    have g10 := of_decide_eq_true h10
    refine cw_region ?_
    refine lw_val rfl (run_move (v := .int .i64 _) rfl) ?_
    refine lw_val rfl (run_move (v := .int .i64 _) rfl) ?_
    refine lw_val rfl (run_add64 rfl rfl (c := n.tmod b + b) rfl (inI (by omega) (by omega))) ?_
    refine lw_val rfl (run_assign (v := .int .i64 _) rfl) ?_
    refine lw_nil ?_
    refine cw_seq ?_
    refine cw_region ?_
    refine lw_val rfl (run_move (v := .int .i64 _) rfl) ?_
    refine lw_val rfl (run_assign (v := .int .i64 _) rfl) ?_
    refine lw_nil ?_
    refine cw_ret ?_
    refine res1 (v := .int .i64 _) rfl rfl ?_
    exact ⟨_, rfl, (n.tmod b + b).toNat, by omega, by show Value.int .i64 (n.tmod b + b) = _; congr 1; omega, hs⟩
  · intro h10
    have g10 := of_decide_eq_false h10
    refine cw_skip ?_
    refine cw_seq ?_
    refine cw_region ?_
    refine lw_val rfl (run_move (v := .int .i64 _) rfl) ?_
    refine lw_val rfl (run_assign (v := .int .i64 _) rfl) ?_
    refine lw_nil ?_
    refine cw_ret ?_
    refine res1 (v := .int .i64 _) rfl rfl ?_
    exact ⟨_, rfl, (n.tmod b).toNat, by omega, by show Value.int .i64 (n.tmod b) = _; congr 1; omega, hs⟩
end Go.Proofs.YtkogkokmcmallaaGreatDoor
