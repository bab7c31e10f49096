/- point.Nums, ReadNums, over chunks. -/
import Derived.Test.YtmnfehbnjgmgjaaDoorVn
namespace Go.Proofs.YtmnfehbnjgmgjaaDoor
set_option linter.all false
open Go.RowKit
attribute [local irreducible] errV eV
variable {g w : World} {L M : List HP} {ad : Nat → Addr}

theorem numsF_len : ∀ l : List Int, (numsF l).length ≤ 10 * l.length
  | [] => by simp [numsF]
  | z :: l => by
    have h1 := numsF_len l
    have h2 := vputF_len 10 (zig z)
    simp only [numsF, vputL, List.length_append, List.length_cons]
    omega
theorem numsL_len (l : List Int) : (numsL l).length ≤ 10 * l.length + 10 := by
  have h1 := numsF_len l
  have h2 := vputF_len 10 l.length
  simp only [numsL, vputL, List.length_append]
  omega
theorem numsF_take {l : List Int} {i : Nat} {z : Int} (h : l[i]? = some z) : numsF (l.take (i + 1)) = numsF (l.take i) ++ vputL (zig z) := by
  rw [List.take_add_one, h, Option.toList_some, numsF_app]
  simp [numsF]
theorem nums_sl (hs : Mem g w L) {a : Option Addr} {n c : Nat} {l : List Int} (hr : Rd g L (.slice a n c) (intsL l)) (hn : n = l.length) (hl : ∀ z ∈ l, InI64 z) (hlen : l.length ≤ 1000) :
    Calls Tryd.prog 14 #[.slice a n c] w (Ret fun v w' => ∃ a c, v = .slice a (numsL l).length c ∧ Mem g w' (own (.slice a (numsL l).length c) (bytesL (numsL l)) :: L)) := by
  subst hn
  have hvl := vputF_len 10 l.length
  have hfl : ∀ i, (numsF (l.take i)).length ≤ 10 * l.length := fun i => Nat.le_trans (numsF_len _) (by rw [List.length_take]; omega)
  refine calls_cw Tryd.func14 rfl rfl ?_
  skip
  refine cw_seq ?_
  refine cw_region ?_
  first | refine lw_val rfl (run_assign (v := .slice _ _ _) rfl) ?_
  refine lw_nil ?_
  refine cw_seq ?_
  refine cw_region ?_
  first | refine lw_val rfl (run_move (v := .slice _ _ _) rfl) ?_
  refine lw_val rfl (run_lenS Tryd.underlying22 rfl) ?_
  refine lw_val rfl (run_convIn Tryd.underlying3 Tryd.underlying27 rfl (c := ((l.length : Nat) : Int)) (by rw [wrap_u64]; omega)) ?_
  refine lw_call rfl en57 (vput_sl hs (lb := []) (n := l.length) Rd.nil rfl (by decide) (by omega)) ?_
  clear hs
  rintro _ w ⟨a9, c9, rfl, hs⟩
  first | refine lw_val rfl (run_assign (v := .slice _ _ _) rfl) ?_
  refine lw_nil ?_
  refine cw_seq ?_
  refine cw_seq ?_
  refine cw_region ?_
  first | refine lw_val rfl (run_move (v := .slice _ _ _) rfl) ?_
  refine lw_val rfl (run_lenS Tryd.underlying22 rfl) ?_
  first | refine lw_val rfl (run_move (v := .int .i64 _) rfl) ?_
  refine lw_nil ?_
  refine cw_block ?_
  refine cw_loop (X := Nat × Option Addr × Nat) [3, 5, 12, 13, 14, 15, 16, 17, 18, 19] (fun x => [(3, .slice x.2.1 (vputL l.length ++ numsF (l.take x.1)).length x.2.2), (12, .int .i64 (x.1 : Nat))]) (fun x w => x.1 ≤ l.length ∧ Mem g w (own (.slice x.2.1 (vputL l.length ++ numsF (l.take x.1)).length x.2.2) (bytesL (vputL l.length ++ numsF (l.take x.1))) :: L)) (fun x => l.length - x.1) ((0, a9, c9)) ?_ ?_ ?_
  · exact ⟨by simp [numsF]; rfl, rfl, trivial⟩
  · exact ⟨Nat.zero_le _, by simpa [numsF] using hs⟩
  clear hs
  rintro x ξ w hI
  obtain ⟨i, oa, oc⟩ := x
  obtain ⟨hi, hs⟩ := hI
  simp only at hi hs
  show cw _ _ _ _ _ _ (updL (mix _ ξ _) [(3, .slice oa (vputL l.length ++ numsF (l.take i)).length oc), (12, .int .i64 (i : Nat))]) w
  refine cw_seq ?_
  refine cw_region ?_
  refine lw_val rfl (run_lss rfl rfl) ?_
  refine lw_nil ?_
  refine cw_seq ?_
  refine cw_if rfl ?_ ?_
  · intro h13
    have g13 := of_decide_eq_true h13
    obtain ⟨z, hz⟩ : ∃ z, l[i]? = some z := ⟨_, List.getElem?_eq_getElem (by omega)⟩
    have hzi := hl z (List.mem_of_getElem? hz)
    obtain ⟨b0, o0, rfl, _⟩ := hr.cons.cells' hs (by rw [intsL_len]; omega)
    refine cw_skip ?_
    refine cw_seq ?_
    refine cw_block ?_
    refine cw_seq ?_
    refine cw_region ?_
    refine lw_val rfl (run_indexAddr Tryd.underlying22 sz2 rfl rfl rfl (by omega) rfl) ?_
    refine lw_val rfl (run_load Tryd.underlying2 rfl rfl (hr.cons.cellAt hs (intsL_at hz))) ?_
    first | refine lw_val rfl (run_assign (v := .int .i64 _) rfl) ?_
    refine lw_nil ?_
    refine cw_region ?_
    first | refine lw_val rfl (run_move (v := .slice _ _ _) rfl) ?_
    first | refine lw_val rfl (run_move (v := .int .i64 _) rfl) ?_
    refine lw_call rfl en58 (putint_sl hs (lb := vputL l.length ++ numsF (l.take i)) (z := zig z) (hs.rdOwn 0 rfl) rfl (by rw [List.length_append]; have := hfl i; unfold vputL; omega) rfl rfl rfl rfl (zig_bits hzi) (zig_lt hzi)) ?_
    clear hs
    rintro _ w ⟨a18, c18, rfl, hs⟩
    first | refine lw_val rfl (run_assign (v := .slice _ _ _) rfl) ?_
    refine lw_nil ?_
    refine cw_region ?_
    refine lw_val rfl (run_add64 rfl rfl rfl (inI (by omega) (by omega))) ?_
    first | refine lw_val rfl (run_move (v := .int .i64 _) rfl) ?_
    refine lw_nil ?_
    rw [List.append_assoc, ← numsF_take hz] at hs
    exact ⟨(i + 1, a18, c18), by simp only; omega, ⟨by simp only; omega, hs.drop 1⟩, ⟨show Value.slice a18 (vputL l.length ++ numsF (l.take i) ++ vputL (zig z)).length c18 = Value.slice a18 (vputL l.length ++ numsF (l.take (i + 1))).length c18 from by rw [List.append_assoc, ← numsF_take hz], rfl, trivial⟩, by repeat (first | exact Out.mix _ _ _ | refine Out.updo rfl ?_ | refine Out.upd rfl ?_ | refine Out.mixIn rfl ?_)⟩
  · intro h13
    have g13 := of_decide_eq_false h13
    refine cw_exit rfl ?_
    refine cw_seq ?_
    refine cw_region ?_
    first | refine lw_val rfl (run_move (v := .slice _ _ _) rfl) ?_
    first | refine lw_val rfl (run_assign (v := .slice _ _ _) rfl) ?_
    refine lw_nil ?_
    refine cw_ret ?_
    refine res1 (v := .slice _ _ _) rfl rfl ?_
    have e : i = l.length := by omega
    subst e
    rw [List.take_length] at hs ⊢
    exact ⟨_, rfl, oa, oc, rfl, hs⟩
/-- Where the reader is when all was read. -/
def rnAt (b : List UInt8) : Nat := (rloop (vnum 4096 b (0, 0)).1 b (vnum 4096 b (0, 0)).2 []).2.1
theorem rnums_sl (hE : ErrW ad g) (hs : Mem g w L) {a : Option Addr} {n c : Nat} {b : List UInt8} (hr : Rd g L (.slice a n c) (bytesL b)) (hn : n = b.length) (hlen : b.length ≤ 100000000) {k : Nat} {l : List Int} (hk : rnums b = (k, l)) :
    Calls Tryd.prog 17 #[.slice a n c] w (Ret fun v w' => ∃ a c eb, v = .tuple #[.slice a l.length c, eV ad k eb] ∧ (∀ z ∈ l, InI64 z) ∧ Mem g w' (own (.slice a l.length c) (intsL l) :: errC ad eb (rnAt b) k :: L)) := by
  obtain ⟨m, st, hv⟩ : ∃ m st, vnum 4096 b (0, 0) = (m, st) := ⟨_, _, rfl⟩
  have hm4 : m ≤ 4096 := by
    have h := congrArg Prod.fst hv
    simp only [vnum] at h
    split at h
    · simp at h; omega
    · split at h
      · simp at h; omega
      · split at h
        · simp at h; omega
        · rename_i h1 h2 h3; rw [← h]; exact Nat.not_lt.1 h3
  obtain ⟨fo, fst, hf⟩ : ∃ fo fst, rloop m b st [] = (fo, fst) := ⟨_, _, rfl⟩
  simp only [rnums, hv, hf] at hk
  have hat : rnAt b = fst.1 := by simp only [rnAt, hv, hf]
  have hwm : ∀ q : Nat, 0 < q → q ≤ 4096 → IntKind.u64.wrap ((q : Int) - 1) = ((q - 1 : Nat) : Int) := fun q h1 h2 => by rw [wrap_u64]; omega
  refine calls_cw Tryd.func17 rfl rfl ?_
  skip
  refine cw_seq ?_
  refine cw_region ?_
  first | refine lw_val rfl (run_assign (v := .slice _ _ _) rfl) ?_
  first | refine lw_val rfl (run_assign (v := errV ad _) rfl) ?_ | refine lw_val rfl (run_assign (v := .nilIface) rfl) ?_ | refine lw_val rfl (run_assign (v := eV ad _ _) rfl) ?_ | refine lw_val rfl (run_assign (v := .iface _ (.pointer (some _))) rfl) ?_
  refine lw_nil ?_
  refine cw_seq ?_
  refine cw_region ?_
  first | refine lw_val rfl (run_move (v := .slice _ _ _) rfl) ?_
  refine lw_call rfl en59 (newr_sl ad hs hr hn (by omega)) ?_
  clear hs
  rintro _ w ⟨rb, rfl, hs⟩
  first | refine lw_val rfl (run_assign (v := .pointer (some _)) rfl) ?_ | refine lw_val rfl (run_assign (v := .pointer none) rfl) ?_
  refine lw_nil ?_
  refine cw_seq ?_
  refine cw_region ?_
  first | refine lw_val rfl (run_assign (v := .slice _ _ _) rfl) ?_
  refine lw_nil ?_
  refine cw_seq ?_
  refine cw_seq ?_
  refine cw_region ?_
  first | refine lw_val rfl (run_move (v := .pointer (some _)) rfl) ?_ | refine lw_val rfl (run_move (v := .pointer none) rfl) ?_
  refine lw_call rfl en60 (num_sl hE hs (by omega) hv) ?_
  clear hs
  rintro _ w ⟨rfl, hs⟩
  first | refine lw_val rfl (run_assign (v := .int .u64 _) rfl) ?_
  refine lw_nil ?_
  refine cw_block ?_
  refine cw_loop (X := Nat × List Int × (Nat × Nat) × Option Addr × Nat) [5, 6, 11, 12, 13, 14, 15, 16, 17, 18, 19, 20, 21, 22, 23, 24] (fun x => [(5, .slice x.2.2.2.1 x.2.1.length x.2.2.2.2), (6, .int .u64 (x.1 : Nat))]) (fun x w => x.1 + x.2.1.length ≤ 4096 ∧ (∀ z ∈ x.2.1, InI64 z) ∧ rloop x.1 b x.2.2.1 x.2.1 = (fo, fst) ∧ Mem g w (own (.slice x.2.2.2.1 x.2.1.length x.2.2.2.2) (intsL x.2.1) :: RdrC rb ad b x.2.2.1 :: L)) (fun x => x.1) ((m, [], st, none, 0)) ?_ ?_ ?_
  · exact ⟨rfl, rfl, trivial⟩
  · exact ⟨by simp; omega, fun z hz => by simp at hz, hf, hs.addE (own_nil _)⟩
  clear hs
  rintro x ξ w hI
  obtain ⟨q, out, sq, oa, oc⟩ := x
  obtain ⟨hq, hoz, hrl, hs⟩ := hI
  simp only at hq hoz hrl hs
  show cw _ _ _ _ _ _ (updL (mix _ ξ _) [(5, .slice oa out.length oc), (6, .int .u64 (q : Nat))]) w
  refine cw_seq ?_
  refine cw_seq ?_
  refine cw_region ?_
  first | refine lw_val rfl (run_move (v := .int .u64 _) rfl) ?_
  refine lw_val rfl (run_gtr rfl rfl) ?_
  first | refine lw_val rfl (run_move (v := .bool _) rfl) ?_
  refine lw_split (t := _) (d := 13) rfl ?_ ?_
  · intro h12
    have g12 := of_decide_eq_true h12
    obtain ⟨q, rfl⟩ : ∃ q', q = q' + 1 := ⟨q - 1, by omega⟩
    simp only [rloop] at hrl
    refine lw_on rfl rfl h12 ?_
    first | refine lw_val rfl (run_move (v := .pointer (some _)) rfl) ?_ | refine lw_val rfl (run_move (v := .pointer none) rfl) ?_
    refine lw_on rfl rfl h12 ?_
    refine lw_call rfl en61 (err_sl (hs.arr [1, 0] 2 (by decide))) ?_
    clear hs
    rintro _ w ⟨e15, rfl, hs⟩
    refine lw_on rfl rfl h12 ?_
    first | refine lw_val rfl (run_eqerrn (ad := ad) rfl) ?_ | refine lw_val rfl (run_eqnn rfl) ?_ | refine lw_val rfl (run_eqE (ad := ad) rfl) ?_
    first | refine lw_val rfl (run_pickT (v := .bool _) rfl h12 rfl) ?_
    refine lw_nil ?_
    refine cw_if rfl ?_ ?_
    · intro h16
      have g16 := of_decide_eq_true h16
      have hz0 := of_decide_eq_true h16
      rw [if_neg (by omega)] at hrl
      obtain ⟨z, sz, hvz⟩ : ∃ z sz, vintS b sq = (z, sz) := ⟨_, _, rfl⟩
      rw [hvz] at hrl
      simp only at hrl
      refine cw_skip ?_
      refine cw_seq ?_
      refine cw_block ?_
      refine cw_region ?_
      first | refine lw_val rfl (run_move (v := .slice _ _ _) rfl) ?_
      first | refine lw_val rfl (run_move (v := .pointer (some _)) rfl) ?_ | refine lw_val rfl (run_move (v := .pointer none) rfl) ?_
      refine lw_call rfl en62 (int_sl hE hs (by omega) hvz) ?_
      clear hs
      rintro _ w ⟨rfl, hzi, hs⟩
      refine lw_buildSlice hs rfl ((intsL [z])) Tryd.underlying22 zs2 rfl (cells_one (intsL_one _)) rfl rfl rfl ?_
      clear hs
      intro b23 w hs
      try simp only [List.set_cons_succ, List.set_cons_zero] at hs
      refine lw_append hs rfl 2 rfl Tryd.underlying22 in2 rfl rfl rfl (src_of_seq (P := Tryd.prog) Tryd.underlying22 ((Rd.cells (n := 1) (cs := intsL [z]) 0 rfl rfl).seq hs) (intsL_one [z])) (by simp only [intsL_len, List.length_cons, List.length_nil]; omega) (by simp only [intsL_len, List.length_cons, List.length_nil]; omega) ?_
      clear hs
      intro a24 c24 w hs
      simp only [List.set_cons_succ, List.set_cons_zero] at hs
      first | refine lw_val rfl (run_assign (v := .slice _ _ _) rfl) ?_
      refine lw_nil ?_
      refine cw_region ?_
      first | refine lw_val rfl (run_move (v := .int .u64 _) rfl) ?_
      refine lw_val rfl (run_sub rfl rfl) ?_
      rw [hwm (q + 1) (by omega) (by omega)]
      first | refine lw_val rfl (run_assign (v := .int .u64 _) rfl) ?_
      refine lw_nil ?_
      have e1 : intsL out ++ intsL [z] = intsL (out ++ [z]) := (intsL_app _ _).symm
      have e2 : (intsL out).length + (intsL [z]).length = (out ++ [z]).length := by simp [intsL_len]
      rw [e1, e2] at hs
      exact ⟨(q, out ++ [z], sz, a24, c24), by simp only; omega, ⟨by simp only [List.length_append, List.length_cons, List.length_nil]; omega, fun y hy => by rcases List.mem_append.1 hy with h | h; exact hoz y h; simp at h; subst h; exact hzi, hrl, hs.arr [2, 1] 3 (by decide)⟩, ⟨show Value.slice a24 ((intsL out).length + (intsL [z]).length) c24 = Value.slice a24 (out ++ [z]).length c24 from by rw [e2], rfl, trivial⟩, by repeat (first | exact Out.mix _ _ _ | refine Out.updo rfl ?_ | refine Out.upd rfl ?_ | refine Out.mixIn rfl ?_)⟩
    · intro h16
      have g16 := of_decide_eq_false h16
      have hz0 := of_decide_eq_false h16
      rw [if_pos hz0] at hrl
      cases hrl
      refine cw_exit rfl ?_
      refine cw_seq ?_
      refine cw_seq ?_
      refine cw_region ?_
      first | refine lw_val rfl (run_move (v := .pointer (some _)) rfl) ?_ | refine lw_val rfl (run_move (v := .pointer none) rfl) ?_
      refine lw_call rfl en61 (err_sl hs) ?_
      clear hs
      rintro _ w ⟨e26, rfl, hs⟩
      first | refine lw_val rfl (run_neerrn (ad := ad) rfl) ?_ | refine lw_val rfl (run_nenn rfl) ?_ | refine lw_val rfl (run_neE (ad := ad) rfl) ?_
      refine lw_nil ?_
      refine cw_if rfl ?_ ?_
      · intro h27
        have g27 := ne_t h27
        have hz1 : fst.2 ≠ 0 := by simpa using h27
        rw [if_pos hz1] at hk
        cases hk
        refine cw_seq ?_
        refine cw_region ?_
        first | refine lw_val rfl (run_move (v := .pointer (some _)) rfl) ?_ | refine lw_val rfl (run_move (v := .pointer none) rfl) ?_
        refine lw_call rfl en61 (errC_sl hs) ?_
        clear hs
        rintro _ w ⟨e29, rfl, hs⟩
        first | refine lw_val rfl (run_assign (v := .slice _ _ _) rfl) ?_
        first | refine lw_val rfl (run_assign (v := errV ad _) rfl) ?_ | refine lw_val rfl (run_assign (v := .nilIface) rfl) ?_ | refine lw_val rfl (run_assign (v := eV ad _ _) rfl) ?_ | refine lw_val rfl (run_assign (v := .iface _ (.pointer (some _))) rfl) ?_
        refine lw_nil ?_
        refine cw_ret ?_
        first | refine res2 (v := .slice _ _ _) (v2 := errV ad _) rfl rfl rfl ?_ | refine res2 (v := .slice _ _ _) (v2 := .nilIface) rfl rfl rfl ?_ | refine res2 (v := .slice _ _ _) (v2 := eV ad _ _) rfl rfl rfl ?_ | refine res2 (v := .slice _ _ _) (v2 := .iface _ (.pointer (some _))) rfl rfl rfl ?_
        rw [hat]
        exact ⟨_, rfl, none, 0, e29, rfl, fun z hz => by simp at hz, (hs.drop 1).addE (own_nil _)⟩
      · intro h27
        have g27 := ne_f h27
        have hz1 : fst.2 = 0 := by simpa using h27
        rw [if_neg (by omega)] at hk
        refine cw_skip ?_
        refine cw_seq ?_
        refine cw_seq ?_
        refine cw_region ?_
        first | refine lw_val rfl (run_move (v := .pointer (some _)) rfl) ?_ | refine lw_val rfl (run_move (v := .pointer none) rfl) ?_
        refine lw_call rfl en63 (left_sl hs (by omega)) ?_
        clear hs
        rintro _ w ⟨rfl, hle, hs⟩
        refine lw_val rfl (run_gtr rfl rfl) ?_
        refine lw_nil ?_
        refine cw_if rfl ?_ ?_
        · intro h32
          have g32 := of_decide_eq_true h32
          rw [if_pos (by omega)] at hk
          cases hk
          refine cw_seq ?_
          refine cw_drawS mixes hs ?_
          intro w tr hK
          replace hs := tr _ hs
          clear tr
          first | refine aw_take 0 rfl (by kernel_rfl) (by kernel_rfl) (by kernel_rfl) rfl (fun w hs => run_move (v := .pointer (some _)) rfl) hK ?_ | refine aw_take 0 rfl (by kernel_rfl) (by kernel_rfl) (by kernel_rfl) rfl (fun w hs => run_move (v := .pointer none) rfl) hK ?_
          refine aw_take 2 rfl (by kernel_rfl) (by kernel_rfl) (by kernel_rfl) rfl (fun w hs => run_load Tryd.underlying30 rfl rfl (hE.cellW hs 104 (by decide) rfl)) hK ?_
          refine aw_ready [1] (by kernel_rfl) (by simp) ?_
          refine ⟨⟨_, rfl, ?_⟩, trivial⟩
          refine lw_call rfl en64 (at_sl hs) ?_
          clear hs
          rintro _ w ⟨rfl, hs⟩
          clear hK
          have hK := hs
          refine lw_nil ⟨hK, ?_⟩
          refine @aw_take _ _ _ _ _ _ _ _ _ _ _ _ _ _ 3 _ rfl (by kernel_rfl) (by kernel_rfl) (by kernel_rfl) rfl (fun w hs => run_buildF [.int .i64 fst.1, errV ad 104] Tryd.underlying100 ze100 pl100 rfl (at_one _ _) rfl rfl) hK ?_
          first | refine aw_take 6 rfl (by kernel_rfl) (by kernel_rfl) (by kernel_rfl) rfl (fun w hs => run_assign (v := .slice _ _ _) rfl) hK ?_
          refine aw_ready [4] (by kernel_rfl) (by simp) ?_
          refine ⟨⟨_, rfl, ?_⟩, trivial⟩
          refine lw_box (v := .agg _) hs rfl rfl ?_
          clear hs
          intro b37 w hs
          clear hK
          have hK := hs.tail
          refine lw_nil ⟨hK, ?_⟩
          refine aw_take 5 rfl (by kernel_rfl) (by kernel_rfl) (by kernel_rfl) rfl (fun w hs => run_mkI Tryd.underlying98 rfl) hK ?_
          first | refine aw_take 7 rfl (by kernel_rfl) (by kernel_rfl) (by kernel_rfl) rfl (fun w hs => run_assign (v := errV ad _) rfl) hK ?_ | refine aw_take 7 rfl (by kernel_rfl) (by kernel_rfl) (by kernel_rfl) rfl (fun w hs => run_assign (v := .nilIface) rfl) hK ?_ | refine aw_take 7 rfl (by kernel_rfl) (by kernel_rfl) (by kernel_rfl) rfl (fun w hs => run_assign (v := eV ad _ _) rfl) hK ?_ | refine aw_take 7 rfl (by kernel_rfl) (by kernel_rfl) (by kernel_rfl) rfl (fun w hs => run_assign (v := .iface _ (.pointer (some _))) rfl) hK ?_
          refine aw_done (by kernel_rfl) ?_
          clear hK
          refine cw_ret ?_
          first | refine res2 (v := .slice _ _ _) (v2 := errV ad _) rfl rfl rfl ?_ | refine res2 (v := .slice _ _ _) (v2 := .nilIface) rfl rfl rfl ?_ | refine res2 (v := .slice _ _ _) (v2 := eV ad _ _) rfl rfl rfl ?_ | refine res2 (v := .slice _ _ _) (v2 := .iface _ (.pointer (some _))) rfl rfl rfl ?_
          rw [hat]
          refine ⟨_, rfl, none, 0, b37, by rw [eV_at (by decide) (by decide)]; rfl, fun z hz => by simp at hz, ?_⟩
          rw [errC_at (by decide)]
          exact (hs.arr [0] 3 (by decide)).addE (own_nil _)
        · intro h32
          have g32 := of_decide_eq_false h32
          rw [if_neg (by omega)] at hk
          cases hk
          refine cw_skip ?_
          refine cw_seq ?_
          refine cw_region ?_
          first | refine lw_val rfl (run_move (v := .slice _ _ _) rfl) ?_
          first | refine lw_val rfl (run_assign (v := .slice _ _ _) rfl) ?_
          first | refine lw_val rfl (run_assign (v := errV ad _) rfl) ?_ | refine lw_val rfl (run_assign (v := .nilIface) rfl) ?_ | refine lw_val rfl (run_assign (v := eV ad _ _) rfl) ?_ | refine lw_val rfl (run_assign (v := .iface _ (.pointer (some _))) rfl) ?_
          refine lw_nil ?_
          refine cw_ret ?_
          first | refine res2 (v := .slice _ _ _) (v2 := errV ad _) rfl rfl rfl ?_ | refine res2 (v := .slice _ _ _) (v2 := .nilIface) rfl rfl rfl ?_ | refine res2 (v := .slice _ _ _) (v2 := eV ad _ _) rfl rfl rfl ?_ | refine res2 (v := .slice _ _ _) (v2 := .iface _ (.pointer (some _))) rfl rfl rfl ?_
          exact ⟨_, rfl, oa, oc, 0, by rw [eV_0], hoz, by rw [errC_bare (.inl rfl)]; exact (hs.addE (emp_ok _)).arr [2, 0] 3 (by decide)⟩
  · intro h12
    have g12 := of_decide_eq_false h12
    obtain rfl : q = 0 := by omega
    cases hrl
    replace hs := hs.arr [1, 0] 2 (by decide)
    refine lw_off rfl rfl rfl h12 ?_
    refine lw_off rfl rfl rfl h12 ?_
    refine lw_off rfl rfl rfl h12 ?_
    first | refine lw_val rfl (run_pickF (v := .bool _) rfl h12 rfl) ?_
    refine lw_nil ?_
    refine cw_iff rfl rfl ?_
    refine cw_exit rfl ?_
    refine cw_seq ?_
    refine cw_seq ?_
    refine cw_region ?_
    first | refine lw_val rfl (run_move (v := .pointer (some _)) rfl) ?_ | refine lw_val rfl (run_move (v := .pointer none) rfl) ?_
    refine lw_call rfl en61 (err_sl hs) ?_
    clear hs
    rintro _ w ⟨e26, rfl, hs⟩
    first | refine lw_val rfl (run_neerrn (ad := ad) rfl) ?_ | refine lw_val rfl (run_nenn rfl) ?_ | refine lw_val rfl (run_neE (ad := ad) rfl) ?_
    refine lw_nil ?_
    refine cw_if rfl ?_ ?_
    · intro h27
      have g27 := ne_t h27
      have hz1 : fst.2 ≠ 0 := by simpa using h27
      rw [if_pos hz1] at hk
      cases hk
      refine cw_seq ?_
      refine cw_region ?_
      first | refine lw_val rfl (run_move (v := .pointer (some _)) rfl) ?_ | refine lw_val rfl (run_move (v := .pointer none) rfl) ?_
      refine lw_call rfl en61 (errC_sl hs) ?_
      clear hs
      rintro _ w ⟨e29, rfl, hs⟩
      first | refine lw_val rfl (run_assign (v := .slice _ _ _) rfl) ?_
      first | refine lw_val rfl (run_assign (v := errV ad _) rfl) ?_ | refine lw_val rfl (run_assign (v := .nilIface) rfl) ?_ | refine lw_val rfl (run_assign (v := eV ad _ _) rfl) ?_ | refine lw_val rfl (run_assign (v := .iface _ (.pointer (some _))) rfl) ?_
      refine lw_nil ?_
      refine cw_ret ?_
      first | refine res2 (v := .slice _ _ _) (v2 := errV ad _) rfl rfl rfl ?_ | refine res2 (v := .slice _ _ _) (v2 := .nilIface) rfl rfl rfl ?_ | refine res2 (v := .slice _ _ _) (v2 := eV ad _ _) rfl rfl rfl ?_ | refine res2 (v := .slice _ _ _) (v2 := .iface _ (.pointer (some _))) rfl rfl rfl ?_
      rw [hat]
      exact ⟨_, rfl, none, 0, e29, rfl, fun z hz => by simp at hz, (hs.drop 1).addE (own_nil _)⟩
    · intro h27
      have g27 := ne_f h27
      have hz1 : fst.2 = 0 := by simpa using h27
      rw [if_neg (by omega)] at hk
      refine cw_skip ?_
      refine cw_seq ?_
      refine cw_seq ?_
      refine cw_region ?_
      first | refine lw_val rfl (run_move (v := .pointer (some _)) rfl) ?_ | refine lw_val rfl (run_move (v := .pointer none) rfl) ?_
      refine lw_call rfl en63 (left_sl hs (by omega)) ?_
      clear hs
      rintro _ w ⟨rfl, hle, hs⟩
      refine lw_val rfl (run_gtr rfl rfl) ?_
      refine lw_nil ?_
      refine cw_if rfl ?_ ?_
      · intro h32
        have g32 := of_decide_eq_true h32
        rw [if_pos (by omega)] at hk
        cases hk
        refine cw_seq ?_
        refine cw_drawS mixes hs ?_
        intro w tr hK
        replace hs := tr _ hs
        clear tr
        first | refine aw_take 0 rfl (by kernel_rfl) (by kernel_rfl) (by kernel_rfl) rfl (fun w hs => run_move (v := .pointer (some _)) rfl) hK ?_ | refine aw_take 0 rfl (by kernel_rfl) (by kernel_rfl) (by kernel_rfl) rfl (fun w hs => run_move (v := .pointer none) rfl) hK ?_
        refine aw_take 2 rfl (by kernel_rfl) (by kernel_rfl) (by kernel_rfl) rfl (fun w hs => run_load Tryd.underlying30 rfl rfl (hE.cellW hs 104 (by decide) rfl)) hK ?_
        refine aw_ready [1] (by kernel_rfl) (by simp) ?_
        refine ⟨⟨_, rfl, ?_⟩, trivial⟩
        refine lw_call rfl en64 (at_sl hs) ?_
        clear hs
        rintro _ w ⟨rfl, hs⟩
        clear hK
        have hK := hs
        refine lw_nil ⟨hK, ?_⟩
        refine @aw_take _ _ _ _ _ _ _ _ _ _ _ _ _ _ 3 _ rfl (by kernel_rfl) (by kernel_rfl) (by kernel_rfl) rfl (fun w hs => run_buildF [.int .i64 fst.1, errV ad 104] Tryd.underlying100 ze100 pl100 rfl (at_one _ _) rfl rfl) hK ?_
        first | refine aw_take 6 rfl (by kernel_rfl) (by kernel_rfl) (by kernel_rfl) rfl (fun w hs => run_assign (v := .slice _ _ _) rfl) hK ?_
        refine aw_ready [4] (by kernel_rfl) (by simp) ?_
        refine ⟨⟨_, rfl, ?_⟩, trivial⟩
        refine lw_box (v := .agg _) hs rfl rfl ?_
        clear hs
        intro b37 w hs
        clear hK
        have hK := hs.tail
        refine lw_nil ⟨hK, ?_⟩
        refine aw_take 5 rfl (by kernel_rfl) (by kernel_rfl) (by kernel_rfl) rfl (fun w hs => run_mkI Tryd.underlying98 rfl) hK ?_
        first | refine aw_take 7 rfl (by kernel_rfl) (by kernel_rfl) (by kernel_rfl) rfl (fun w hs => run_assign (v := errV ad _) rfl) hK ?_ | refine aw_take 7 rfl (by kernel_rfl) (by kernel_rfl) (by kernel_rfl) rfl (fun w hs => run_assign (v := .nilIface) rfl) hK ?_ | refine aw_take 7 rfl (by kernel_rfl) (by kernel_rfl) (by kernel_rfl) rfl (fun w hs => run_assign (v := eV ad _ _) rfl) hK ?_ | refine aw_take 7 rfl (by kernel_rfl) (by kernel_rfl) (by kernel_rfl) rfl (fun w hs => run_assign (v := .iface _ (.pointer (some _))) rfl) hK ?_
        refine aw_done (by kernel_rfl) ?_
        clear hK
        refine cw_ret ?_
        first | refine res2 (v := .slice _ _ _) (v2 := errV ad _) rfl rfl rfl ?_ | refine res2 (v := .slice _ _ _) (v2 := .nilIface) rfl rfl rfl ?_ | refine res2 (v := .slice _ _ _) (v2 := eV ad _ _) rfl rfl rfl ?_ | refine res2 (v := .slice _ _ _) (v2 := .iface _ (.pointer (some _))) rfl rfl rfl ?_
        rw [hat]
        refine ⟨_, rfl, none, 0, b37, by rw [eV_at (by decide) (by decide)]; rfl, fun z hz => by simp at hz, ?_⟩
        rw [errC_at (by decide)]
        exact (hs.arr [0] 3 (by decide)).addE (own_nil _)
      · intro h32
        have g32 := of_decide_eq_false h32
        rw [if_neg (by omega)] at hk
        cases hk
        refine cw_skip ?_
        refine cw_seq ?_
        refine cw_region ?_
        first | refine lw_val rfl (run_move (v := .slice _ _ _) rfl) ?_
        first | refine lw_val rfl (run_assign (v := .slice _ _ _) rfl) ?_
        first | refine lw_val rfl (run_assign (v := errV ad _) rfl) ?_ | refine lw_val rfl (run_assign (v := .nilIface) rfl) ?_ | refine lw_val rfl (run_assign (v := eV ad _ _) rfl) ?_ | refine lw_val rfl (run_assign (v := .iface _ (.pointer (some _))) rfl) ?_
        refine lw_nil ?_
        refine cw_ret ?_
        first | refine res2 (v := .slice _ _ _) (v2 := errV ad _) rfl rfl rfl ?_ | refine res2 (v := .slice _ _ _) (v2 := .nilIface) rfl rfl rfl ?_ | refine res2 (v := .slice _ _ _) (v2 := eV ad _ _) rfl rfl rfl ?_ | refine res2 (v := .slice _ _ _) (v2 := .iface _ (.pointer (some _))) rfl rfl rfl ?_
        exact ⟨_, rfl, oa, oc, 0, by rw [eV_0], hoz, by rw [errC_bare (.inl rfl)]; exact (hs.addE (emp_ok _)).arr [2, 0] 3 (by decide)⟩
end Go.Proofs.YtmnfehbnjgmgjaaDoor
