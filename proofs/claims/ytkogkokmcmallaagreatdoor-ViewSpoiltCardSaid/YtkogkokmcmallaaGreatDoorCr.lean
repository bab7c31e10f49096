/- crc.Seal, crc.Open, slices.Equal of bytes, over chunks; vint.Put. -/
import Derived.Test.YtkogkokmcmallaaGreatDoorBc
import Derived.Test.YtkogkokmcmallaaGreatDoorZe
import Derived.Test.YtkogkokmcmallaaGreatDoorVp
namespace Go.Proofs.YtkogkokmcmallaaGreatDoor
set_option linter.all false
open Go.RowKit
attribute [local irreducible] errV
variable {g w : World} {L M : List HP} {ad : Nat → Addr}

/-- The codes that what is kept aside speaks of. -/
def pointCodes : List Nat := [101, 102, 105, 106, 107, 108, 109, 110]
abbrev ErrP (ad : Nat → Addr) (g : World) : Prop := Errs pointCodes ad g.heap.size g
theorem point_all {c : Nat} (h : c ∈ pointCodes) : c ∈ allCodes := by
  simp only [pointCodes, allCodes, List.mem_cons, List.not_mem_nil, or_false] at *; omega
theorem Errs.point {ad : Nat → Addr} {B : Nat} {w : World} (h : Errs allCodes ad B w) : Errs pointCodes ad B w :=
  ⟨fun c hc => h.pos c (point_all hc), fun c hc => h.cell c (point_all hc), fun c hc => h.block c (point_all hc), fun c hc d hd => h.inj c (point_all hc) d (point_all hd), fun c hc => h.lt c (point_all hc)⟩
def le4 (s : Nat) : List UInt8 := [UInt8.ofNat s, UInt8.ofNat (s / 2 ^ 8), UInt8.ofNat (s / 2 ^ 16), UInt8.ofNat (s / 2 ^ 24)]
/-- Bytes with their sum behind them. -/
def sealL (b : List UInt8) : List UInt8 := b ++ le4 (crcMore 0 b)
def openL (b : List UInt8) : Nat × List UInt8 := if b.length < 4 then (101, []) else if sealL (b.take (b.length - 4)) = b then (0, b.take (b.length - 4)) else (102, [])
theorem sealL_len (b : List UInt8) : (sealL b).length = b.length + 4 := by simp [sealL, le4]
theorem open_seal (b : List UInt8) : openL (sealL b) = (0, b) := by
  have h : (sealL b).take ((sealL b).length - 4) = b := by rw [sealL_len]; simp [sealL]
  unfold openL
  rw [if_neg (by rw [sealL_len]; omega), h, if_pos rfl]
theorem cof_sl (hs : Mem g w L) {b : Nat} {T : TypeId} {v : Value} {l : List UInt8} (i : Nat) (hi : L[i]? = some (cells b [v] T)) (hr : Rd g L v (bytesL l)) (hlen : l.length ≤ 1073741824) : Calls Tryz.prog 154 #[.slice (some ⟨b, 0, none⟩) 1 1] w (Ret fun v w' => v = .int .u32 (crcMore 0 l : Nat) ∧ Mem g w' L) := by
  have h1 : Rd g L (.slice (some ⟨b, 0, none⟩) 1 1) [v] := Rd.cells (n := 1) i hi rfl
  exact hs.calls (of_any0 (h1 w hs) (hr w hs) hlen)
theorem seal_sl (hs : Mem g w L) {a : Option Addr} {n c : Nat} {l : List UInt8} (hr : Rd g L (.slice a n c) (bytesL l)) (hn : n = l.length) (hlen : l.length ≤ 100000000) : Calls Tryz.prog 114 #[.slice a n c] w (Ret fun v w' => ∃ a' c', v = .slice a' (sealL l).length c' ∧ Mem g w' (own (.slice a' (sealL l).length c') (bytesL (sealL l)) :: L)) := by
  subst hn
  obtain ⟨s, hS⟩ : ∃ s, crcMore 0 l = s := ⟨_, rfl⟩
  have hs32 : s < 4294967296 := hS ▸ crcMore_lt (by decide) l
  refine calls_cw Tryz.func114 rfl rfl ?_
  skip
  refine cw_seq ?_
  refine cw_region ?_
  first | refine lw_val rfl (run_assign (v := .slice _ _ _) rfl) ?_
  refine lw_nil ?_
  refine cw_seq ?_
  refine cw_region ?_
  first | refine lw_val rfl (run_move (v := .slice _ _ _) rfl) ?_
  refine lw_buildSlice hs rfl ([.slice a l.length c]) Tryz.underlying179 zs64 rfl (by simp [Value.cells]) rfl rfl rfl ?_
  clear hs
  intro b5 w hs
  try simp only [List.set_cons_succ, List.set_cons_zero] at hs
  refine lw_call rfl en154 (cof_sl hs 0 rfl hr.cons (by omega)) ?_
  clear hs
  rintro _ w ⟨rfl, hs⟩
  rw [hS]
  first | refine lw_val rfl (run_assign (v := .int .u32 _) rfl) ?_
  refine lw_nil ?_
  refine cw_seq ?_
  refine cw_region ?_
  first | refine lw_val rfl (run_move (v := .slice _ _ _) rfl) ?_
  refine lw_call rfl en94 (clone_sl hs (l := l) hr.cons (by omega)) ?_
  clear hs
  rintro _ w ⟨a8, c8, rfl, hs⟩
  first | refine lw_val rfl (run_move (v := .int .u32 _) rfl) ?_
  refine lw_val rfl (run_convIn Tryz.underlying39 Tryz.underlying5 rfl (c := (((UInt8.ofNat s).toNat : Nat) : Int)) (wrapB s)) ?_
  first | refine lw_val rfl (run_move (v := .int .u32 _) rfl) ?_
  refine lw_val rfl (run_shr rfl rfl (n := 8) (c := ((s / 2 ^ 8 : Nat) : Int)) rfl (by decide) (by omega)) ?_
  refine lw_val rfl (run_convIn Tryz.underlying39 Tryz.underlying5 rfl (c := (((UInt8.ofNat (s / 2 ^ 8)).toNat : Nat) : Int)) (wrapB _)) ?_
  first | refine lw_val rfl (run_move (v := .int .u32 _) rfl) ?_
  refine lw_val rfl (run_shr rfl rfl (n := 16) (c := ((s / 2 ^ 16 : Nat) : Int)) rfl (by decide) (by omega)) ?_
  refine lw_val rfl (run_convIn Tryz.underlying39 Tryz.underlying5 rfl (c := (((UInt8.ofNat (s / 2 ^ 16)).toNat : Nat) : Int)) (wrapB _)) ?_
  first | refine lw_val rfl (run_move (v := .int .u32 _) rfl) ?_
  refine lw_val rfl (run_shr rfl rfl (n := 24) (c := ((s / 2 ^ 24 : Nat) : Int)) rfl (by decide) (by omega)) ?_
  refine lw_val rfl (run_convIn Tryz.underlying39 Tryz.underlying5 rfl (c := (((UInt8.ofNat (s / 2 ^ 24)).toNat : Nat) : Int)) (wrapB _)) ?_
  refine lw_buildSlice hs rfl ((bytesL (le4 s))) Tryz.underlying64 zs5 rfl (cells_one (bytesL_one _)) rfl rfl rfl ?_
  clear hs
  intro b20 w hs
  try simp only [List.set_cons_succ, List.set_cons_zero] at hs
  refine lw_append hs rfl 1 rfl Tryz.underlying64 in5 rfl rfl rfl (src_of_seq (P := Tryz.prog) Tryz.underlying64 ((Rd.cells (n := 4) (cs := bytesL (le4 s)) 0 rfl rfl).seq hs) (bytesL_one (le4 s))) (by simp only [bytesL_len, le4, List.length_cons, List.length_nil]; omega) (by simp only [bytesL_len, le4, List.length_cons, List.length_nil]; omega) ?_
  clear hs
  intro a21 c21 w hs
  simp only [List.set_cons_succ, List.set_cons_zero] at hs
  first | refine lw_val rfl (run_assign (v := .slice _ _ _) rfl) ?_
  refine lw_nil ?_
  refine cw_ret ?_
  refine res1 (v := .slice _ _ _) rfl rfl ?_
  have e : bytesL l ++ bytesL (le4 s) = bytesL (sealL l) := by rw [← bytesL_app, sealL, hS]
  have e2 : (bytesL l).length + (bytesL (le4 s)).length = (sealL l).length := by rw [bytesL_len, bytesL_len, sealL_len]; rfl
  rw [e, e2] at hs
  exact ⟨_, rfl, a21, c21, by rw [e2], hs.arr [1] 3 (by decide)⟩
theorem equalB_sl (hs : Mem g w L) {a b : Option Addr} {n m c d : Nat} {la lb : List UInt8} (ha : Rd g L (.slice a n c) (bytesL la)) (hb : Rd g L (.slice b m d) (bytesL lb)) (hn : n = la.length) (hm : m = lb.length) (hlen : la.length ≤ 1073741824) :
    Calls Tryz.prog 199 #[.slice a n c, .slice b m d] w (Ret fun v w' => v = .bool (decide (la = lb)) ∧ Mem g w' L) := by
  subst hn hm
  refine calls_cw Tryz.func199 rfl rfl ?_
  skip
  refine cw_seq ?_
  refine cw_region ?_
  first | refine lw_val rfl (run_assign (v := .bool _) rfl) ?_
  refine lw_nil ?_
  refine cw_seq ?_
  refine cw_seq ?_
  refine cw_region ?_
  first | refine lw_val rfl (run_move (v := .slice _ _ _) rfl) ?_
  refine lw_val rfl (run_lenS Tryz.underlying64 rfl) ?_
  first | refine lw_val rfl (run_move (v := .slice _ _ _) rfl) ?_
  refine lw_val rfl (run_lenS Tryz.underlying64 rfl) ?_
  refine lw_val rfl (run_nei rfl rfl) ?_
  refine lw_nil ?_
  refine cw_if rfl ?_ ?_
  · intro h10
    have g10 := ne_t h10
    refine cw_seq ?_
    refine cw_region ?_
    first | refine lw_val rfl (run_assign (v := .bool _) rfl) ?_
    refine lw_nil ?_
    refine cw_ret ?_
    refine res1 (v := .bool _) rfl rfl ?_
    exact ⟨_, rfl, ret_b (by rw [decide_eq_false (fun e => g10 (by rw [e]))]), hs⟩
  · intro h10
    have g10 := ne_f h10
    refine cw_skip ?_
    refine cw_seq ?_
    refine cw_seq ?_
    refine cw_region ?_
    first | refine lw_val rfl (run_move (v := .slice _ _ _) rfl) ?_
    refine lw_val rfl (run_lenS Tryz.underlying64 rfl) ?_
    first | refine lw_val rfl (run_move (v := .int .i64 _) rfl) ?_
    refine lw_nil ?_
    refine cw_block ?_
    refine cw_loop (X := Nat) [4, 5, 13, 14, 15, 16, 17, 18, 19, 20, 21, 22, 23, 24, 25] (fun k => [(13, .int .i64 (k : Nat))]) (fun k w => k ≤ la.length ∧ la.take k = lb.take k ∧ Mem g w L) (fun k => la.length - k) (0) ?_ ?_ ?_
    · exact ⟨rfl, trivial⟩
    · exact ⟨Nat.zero_le _, rfl, hs⟩
    clear hs
    rintro x ξ w hI
    obtain ⟨hk, hq, hs⟩ := hI
    refine cw_seq ?_
    refine cw_region ?_
    refine lw_val rfl (run_lss rfl rfl) ?_
    refine lw_nil ?_
    refine cw_seq ?_
    refine cw_if rfl ?_ ?_
    · intro h14
      have g14 := of_decide_eq_true h14
      obtain ⟨xa, hxa⟩ : ∃ xa, la[x]? = some xa := ⟨la[x]'(by omega), List.getElem?_eq_getElem _⟩
      obtain ⟨xb, hxb⟩ : ∃ xb, lb[x]? = some xb := ⟨lb[x]'(by omega), List.getElem?_eq_getElem _⟩
      obtain ⟨b1, o1, rfl, _⟩ := ha.cells' hs (by rw [bytesL_len]; omega)
      obtain ⟨b2, o2, rfl, _⟩ := hb.cells' hs (by rw [bytesL_len]; omega)
      refine cw_skip ?_
      refine cw_seq ?_
      refine cw_block ?_
      refine cw_seq ?_
      refine cw_region ?_
      first | refine lw_val rfl (run_move (v := .int .i64 _) rfl) ?_
      first | refine lw_val rfl (run_assign (v := .int .i64 _) rfl) ?_
      refine lw_nil ?_
      refine cw_seq ?_
      refine cw_drawS mixes hs ?_
      intro w tr hK
      replace hs := tr _ hs
      clear tr
      first | refine aw_take 0 rfl (by kernel_rfl) (by kernel_rfl) (by kernel_rfl) rfl (fun w hs => run_move (v := .slice _ _ _) rfl) hK ?_
      first | refine aw_take 1 rfl (by kernel_rfl) (by kernel_rfl) (by kernel_rfl) rfl (fun w hs => run_move (v := .int .i64 _) rfl) hK ?_
      refine aw_take 2 rfl (by kernel_rfl) (by kernel_rfl) (by kernel_rfl) rfl (fun w hs => run_indexAddr Tryz.underlying64 sz5 rfl rfl rfl (by omega) rfl) hK ?_
      refine aw_take 3 rfl (by kernel_rfl) (by kernel_rfl) (by kernel_rfl) rfl (fun w hs => run_load Tryz.underlying5 rfl rfl (ha.cellAt hs (bytesL_at hxa))) hK ?_
      first | refine aw_take 4 rfl (by kernel_rfl) (by kernel_rfl) (by kernel_rfl) rfl (fun w hs => run_move (v := .slice _ _ _) rfl) hK ?_
      first | refine aw_take 5 rfl (by kernel_rfl) (by kernel_rfl) (by kernel_rfl) rfl (fun w hs => run_move (v := .int .i64 _) rfl) hK ?_
      refine aw_take 6 rfl (by kernel_rfl) (by kernel_rfl) (by kernel_rfl) rfl (fun w hs => run_indexAddr Tryz.underlying64 sz5 rfl rfl rfl (by omega) rfl) hK ?_
      refine aw_take 7 rfl (by kernel_rfl) (by kernel_rfl) (by kernel_rfl) rfl (fun w hs => run_load Tryz.underlying5 rfl rfl (hb.cellAt hs (bytesL_at hxb))) hK ?_
      refine aw_take 8 rfl (by kernel_rfl) (by kernel_rfl) (by kernel_rfl) rfl (fun w hs => run_nei rfl rfl) hK ?_
      refine aw_done (by kernel_rfl) ?_
      clear hK
      refine cw_if rfl ?_ ?_
      · intro h24
        have g24 := ne_t h24
        refine cw_seq ?_
        refine cw_region ?_
        first | refine lw_val rfl (run_assign (v := .bool _) rfl) ?_
        refine lw_nil ?_
        refine cw_ret ?_
        refine res1 (v := .bool _) rfl rfl ?_
        exact ⟨_, rfl, ret_b (by rw [decide_eq_false (fun e => by subst e; rw [hxa] at hxb; cases hxb; exact g24 rfl)]), hs⟩
      · intro h24
        have g24 := ne_f h24
        refine cw_skip ?_
        refine cw_region ?_
        refine lw_val rfl (run_add64 rfl rfl rfl (inI (by omega) (by omega))) ?_
        first | refine lw_val rfl (run_move (v := .int .i64 _) rfl) ?_
        refine lw_nil ?_
        exact ⟨x + 1, by omega, ⟨by omega, by rw [List.take_add_one, List.take_add_one, hxa, hxb, hq, u8v_inj g24], hs⟩, ⟨rfl, trivial⟩, by repeat (first | exact Out.mix _ _ _ | refine Out.updo rfl ?_ | refine Out.upd rfl ?_ | refine Out.mixIn rfl ?_)⟩
    · intro h14
      have g14 := of_decide_eq_false h14
      refine cw_exit rfl ?_
      refine cw_seq ?_
      refine cw_region ?_
      first | refine lw_val rfl (run_assign (v := .bool _) rfl) ?_
      refine lw_nil ?_
      refine cw_ret ?_
      refine res1 (v := .bool _) rfl rfl ?_
      have h1 : x = la.length := by omega
      rw [h1, List.take_of_length_le (Nat.le_refl _), List.take_of_length_le (by omega)] at hq
      exact ⟨_, rfl, ret_b (decide_eq_true hq).symm, hs⟩
theorem copen_sl (hE : ErrP ad g) (hs : Mem g w L) {a : Option Addr} {n c : Nat} {l : List UInt8} (hr : Rd g L (.slice a n c) (bytesL l)) (hn : n = l.length) (hc : n ≤ c) (hlen : l.length ≤ 100000000) {k : Nat} {b : List UInt8} (hk : openL l = (k, b)) : Calls Tryz.prog 115 #[.slice a n c] w (Ret fun v w' => ∃ a' c', v = .tuple #[.slice a' b.length c', errV ad k] ∧ Mem g w' (own (.slice a' b.length c') (bytesL b) :: L)) := by
  subst hn
  refine calls_cw Tryz.func115 rfl rfl ?_
  skip
  refine cw_seq ?_
  refine cw_region ?_
  first | refine lw_val rfl (run_assign (v := .slice _ _ _) rfl) ?_
  first | refine lw_val rfl (run_assign (v := errV ad _) rfl) ?_ | refine lw_val rfl (run_assign (v := .nilIface) rfl) ?_ | refine lw_val rfl (run_assign (v := eV ad _ _) rfl) ?_ | refine lw_val rfl (run_assign (v := .iface _ (.pointer (some _))) rfl) ?_ | refine lw_val rfl (run_assign (v := flV ad _ _) rfl) ?_
  refine lw_nil ?_
  refine cw_seq ?_
  refine cw_seq ?_
  refine cw_region ?_
  first | refine lw_val rfl (run_move (v := .slice _ _ _) rfl) ?_
  refine lw_val rfl (run_lenS Tryz.underlying64 rfl) ?_
  refine lw_val rfl (run_lss rfl rfl) ?_
  refine lw_nil ?_
  refine cw_if rfl ?_ ?_
  · intro h7
    have g7 := of_decide_eq_true h7
    have e : openL l = (101, []) := by unfold openL; rw [if_pos (by omega)]
    rw [e] at hk
    cases hk
    refine cw_seq ?_
    refine cw_drawS mixes hs ?_
    intro w tr hK
    replace hs := tr _ hs
    clear tr
    refine aw_take 0 rfl (by kernel_rfl) (by kernel_rfl) (by kernel_rfl) rfl (fun w hs => run_load Tryz.underlying30 rfl rfl (hE.cellW hs 101 (by decide) rfl)) hK ?_
    first | refine aw_take 1 rfl (by kernel_rfl) (by kernel_rfl) (by kernel_rfl) rfl (fun w hs => run_assign (v := .slice _ _ _) rfl) hK ?_
    first | refine aw_take 2 rfl (by kernel_rfl) (by kernel_rfl) (by kernel_rfl) rfl (fun w hs => run_assign (v := errV ad _) rfl) hK ?_ | refine aw_take 2 rfl (by kernel_rfl) (by kernel_rfl) (by kernel_rfl) rfl (fun w hs => run_assign (v := .nilIface) rfl) hK ?_ | refine aw_take 2 rfl (by kernel_rfl) (by kernel_rfl) (by kernel_rfl) rfl (fun w hs => run_assign (v := eV ad _ _) rfl) hK ?_ | refine aw_take 2 rfl (by kernel_rfl) (by kernel_rfl) (by kernel_rfl) rfl (fun w hs => run_assign (v := .iface _ (.pointer (some _))) rfl) hK ?_ | refine aw_take 2 rfl (by kernel_rfl) (by kernel_rfl) (by kernel_rfl) rfl (fun w hs => run_assign (v := flV ad _ _) rfl) hK ?_
    refine aw_done (by kernel_rfl) ?_
    clear hK
    refine cw_ret ?_
    first | refine res2 (v := .slice _ _ _) (v2 := errV ad _) rfl rfl rfl ?_ | refine res2 (v := .slice _ _ _) (v2 := .nilIface) rfl rfl rfl ?_ | refine res2 (v := .slice _ _ _) (v2 := eV ad _ _) rfl rfl rfl ?_ | refine res2 (v := .slice _ _ _) (v2 := .iface _ (.pointer (some _))) rfl rfl rfl ?_ | refine res2 (v := .slice _ _ _) (v2 := flV ad _ _) rfl rfl rfl ?_
    exact ⟨_, rfl, none, 0, rfl, hs.addE (own_nil _)⟩
  · intro h7
    have g7 := of_decide_eq_false h7
    refine cw_skip ?_
    refine cw_seq ?_
    refine cw_region ?_
    first | refine lw_val rfl (run_move (v := .slice _ _ _) rfl) ?_
    first | refine lw_val rfl (run_move (v := .slice _ _ _) rfl) ?_
    refine lw_val rfl (run_lenS Tryz.underlying64 rfl) ?_
    refine lw_val rfl (run_sub64 rfl rfl (c := ((l.length - 4 : Nat) : Int)) (by omega) (inI (by omega) (by omega))) ?_
    refine lw_val rfl (run_sliceTo Tryz.underlying64 sz5 rfl rfl (hi := l.length - 4) rfl (by omega)) ?_
    first | refine lw_val rfl (run_assign (v := .slice _ _ _) rfl) ?_
    refine lw_nil ?_
    refine cw_seq ?_
    refine cw_seq ?_
    refine cw_region ?_
    first | refine lw_val rfl (run_move (v := .slice _ _ _) rfl) ?_
    refine lw_call rfl en114 (seal_sl hs (l := (l.take (l.length - 4)).drop 0) (hr.subB (by omega) (by omega)) (by simp) (by simp; omega)) ?_
    clear hs
    rintro _ w ⟨a15, c15, rfl, hs⟩
    first | refine lw_val rfl (run_move (v := .slice _ _ _) rfl) ?_
    refine lw_call rfl en199 (equalB_sl hs (la := sealL (l.take (l.length - 4))) (lb := l) (hs.rdOwn 0 rfl) hr.cons rfl rfl (by rw [sealL_len, List.length_take]; omega)) ?_
    clear hs
    rintro _ w ⟨rfl, hs⟩
    refine lw_val rfl (run_not rfl) ?_
    refine lw_nil ?_
    refine cw_if rfl ?_ ?_
    · intro h17
      replace h17 := not_b h17
      have hne := of_decide_eq_false h17
      have e : openL l = (102, []) := by unfold openL; rw [if_neg (by omega), if_neg hne]
      rw [e] at hk
      cases hk
      refine cw_seq ?_
      refine cw_drawS mixes hs ?_
      intro w tr hK
      replace hs := tr _ hs
      clear tr
      refine aw_take 0 rfl (by kernel_rfl) (by kernel_rfl) (by kernel_rfl) rfl (fun w hs => run_load Tryz.underlying30 rfl rfl (hE.cellW hs 102 (by decide) rfl)) hK ?_
      first | refine aw_take 1 rfl (by kernel_rfl) (by kernel_rfl) (by kernel_rfl) rfl (fun w hs => run_assign (v := .slice _ _ _) rfl) hK ?_
      first | refine aw_take 2 rfl (by kernel_rfl) (by kernel_rfl) (by kernel_rfl) rfl (fun w hs => run_assign (v := errV ad _) rfl) hK ?_ | refine aw_take 2 rfl (by kernel_rfl) (by kernel_rfl) (by kernel_rfl) rfl (fun w hs => run_assign (v := .nilIface) rfl) hK ?_ | refine aw_take 2 rfl (by kernel_rfl) (by kernel_rfl) (by kernel_rfl) rfl (fun w hs => run_assign (v := eV ad _ _) rfl) hK ?_ | refine aw_take 2 rfl (by kernel_rfl) (by kernel_rfl) (by kernel_rfl) rfl (fun w hs => run_assign (v := .iface _ (.pointer (some _))) rfl) hK ?_ | refine aw_take 2 rfl (by kernel_rfl) (by kernel_rfl) (by kernel_rfl) rfl (fun w hs => run_assign (v := flV ad _ _) rfl) hK ?_
      refine aw_done (by kernel_rfl) ?_
      clear hK
      refine cw_ret ?_
      first | refine res2 (v := .slice _ _ _) (v2 := errV ad _) rfl rfl rfl ?_ | refine res2 (v := .slice _ _ _) (v2 := .nilIface) rfl rfl rfl ?_ | refine res2 (v := .slice _ _ _) (v2 := eV ad _ _) rfl rfl rfl ?_ | refine res2 (v := .slice _ _ _) (v2 := .iface _ (.pointer (some _))) rfl rfl rfl ?_ | refine res2 (v := .slice _ _ _) (v2 := flV ad _ _) rfl rfl rfl ?_
      exact ⟨_, rfl, none, 0, rfl, (hs.tail).addE (own_nil _)⟩
    · intro h17
      replace h17 := not_c h17
      have heq := of_decide_eq_true h17
      have e : openL l = (0, l.take (l.length - 4)) := by unfold openL; rw [if_neg (by omega), if_pos heq]
      rw [e] at hk
      cases hk
      refine cw_skip ?_
      refine cw_seq ?_
      refine cw_region ?_
      first | refine lw_val rfl (run_move (v := .slice _ _ _) rfl) ?_
      refine lw_call rfl en94 (clone_sl hs (l := (l.take (l.length - 4)).drop 0) (hr.cons.subB (by omega) (by omega)) (by simp; omega)) ?_
      clear hs
      rintro _ w ⟨a21, c21, rfl, hs⟩
      first | refine lw_val rfl (run_assign (v := .slice _ _ _) rfl) ?_
      first | refine lw_val rfl (run_assign (v := errV ad _) rfl) ?_ | refine lw_val rfl (run_assign (v := .nilIface) rfl) ?_ | refine lw_val rfl (run_assign (v := eV ad _ _) rfl) ?_ | refine lw_val rfl (run_assign (v := .iface _ (.pointer (some _))) rfl) ?_ | refine lw_val rfl (run_assign (v := flV ad _ _) rfl) ?_
      refine lw_nil ?_
      refine cw_ret ?_
      first | refine res2 (v := .slice _ _ _) (v2 := errV ad _) rfl rfl rfl ?_ | refine res2 (v := .slice _ _ _) (v2 := .nilIface) rfl rfl rfl ?_ | refine res2 (v := .slice _ _ _) (v2 := eV ad _ _) rfl rfl rfl ?_ | refine res2 (v := .slice _ _ _) (v2 := .iface _ (.pointer (some _))) rfl rfl rfl ?_ | refine res2 (v := .slice _ _ _) (v2 := flV ad _ _) rfl rfl rfl ?_
      rw [bytesL_len] at hs ⊢
      exact ⟨_, rfl, a21, c21, by rw [errV_zero]; rfl, hs.drop 1⟩

end Go.Proofs.YtkogkokmcmallaaGreatDoor
