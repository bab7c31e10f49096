/- PartMakes: the walk. -/
import Derived.Test.YtjiigajekminaaaDoorSL
import Derived.Test.YtjiigajekminaaaDoorRefSum
import Derived.Test.YtjiigajekminaaaDoorRefName
namespace Go.Proofs.YtjiigajekminaaaDoor
set_option linter.all false
open Go.RowKit
attribute [local irreducible] errV
variable {g w : World} {L : List HP} {ad : Nat → Addr}

theorem first13_sl (hE : ErrG ad g) (hs : Mem g w L) : Calls Tryd.prog 28 #[] w (Ret fun v w' => v = .bool true ∧ Mem g w' L) := by
  have hk : mkR ⟨#[97]⟩ [49, 50, 51, 52, 53] 2 = (0, ⟨#[97]⟩, 5, ((crcMore 0 [49, 50, 51, 52, 53] : Nat) : Int), 2, 3) := by
    unfold mkR; rw [if_neg (by decide +kernel), if_neg (by decide), if_neg (by decide)]; rfl
  refine calls_cw Tryd.func28 rfl rfl ?_
  skip
  refine cw_seq ?_
  refine cw_region ?_
  first | refine lw_val rfl (run_assign (v := .bool _) rfl) ?_
  refine lw_nil ?_
  refine cw_seq ?_
  refine cw_region ?_
  refine lw_buildSlice hs rfl ((bytesL [49, 50, 51, 52, 53])) Tryd.underlying27 zs5 rfl (cells_one (bytesL_one _)) rfl rfl rfl ?_
  clear hs
  intro b4 w hs
  try simp only [List.set_cons_succ, List.set_cons_zero] at hs
  refine lw_constBytes hs rfl 0 rfl rfl Tryd.underlying27 Tryd.underlying5 rfl ?_
  clear hs
  intro w hs
  try simp only [List.set_cons_succ, List.set_cons_zero] at hs
  refine lw_call rfl en29 (make_sl hE hs (l := [49, 50, 51, 52, 53]) (Rd.rd 0 rfl) rfl (by decide) (inI (by decide) (by decide))) ?_
  clear hs
  rintro _ w ⟨c6, nm, sz, sm, ea, pa, hm, rfl, hs⟩
  rw [hk] at hm; simp only [Prod.mk.injEq] at hm; obtain ⟨hc, rfl, rfl, rfl, rfl, rfl⟩ := hm
  first | refine lw_val rfl (run_move (v := .tuple _) rfl) ?_
  first | refine lw_val rfl (run_extract (v := .agg _) rfl rfl) ?_
  first | refine lw_val rfl (run_extract (v := errV ad _) rfl rfl) ?_ | refine lw_val rfl (run_extract (v := .nilIface) rfl rfl) ?_
  refine lw_alloc hs rfl ze38 ?_
  clear hs
  intro b1 w hs
  try simp only [List.set_cons_succ, List.set_cons_zero] at hs
  first | refine lw_storeRow hs 0 rfl rfl rfl sz38 rfl rfl ?_ | refine lw_storeRow hs 1 rfl rfl rfl sz38 rfl rfl ?_ | refine lw_storeRow hs 2 rfl rfl rfl sz38 rfl rfl ?_ | refine lw_storeRow hs 3 rfl rfl rfl sz38 rfl rfl ?_ | refine lw_storeRow hs 4 rfl rfl rfl sz38 rfl rfl ?_ | refine lw_storeRow hs 5 rfl rfl rfl sz38 rfl rfl ?_ | refine lw_storeRow hs 6 rfl rfl rfl sz38 rfl rfl ?_ | refine lw_storeRow hs 7 rfl rfl rfl sz38 rfl rfl ?_ | refine lw_storeRow hs 8 rfl rfl rfl sz38 rfl rfl ?_ | refine lw_storeRow hs 9 rfl rfl rfl sz38 rfl rfl ?_ | refine lw_storeRow hs 10 rfl rfl rfl sz38 rfl rfl ?_ | refine lw_storeRow hs 11 rfl rfl rfl sz38 rfl rfl ?_ | refine lw_storeRow hs 12 rfl rfl rfl sz38 rfl rfl ?_ | refine lw_storeRow hs 13 rfl rfl rfl sz38 rfl rfl ?_
  clear hs
  intro w hs
  try simp only [List.set_cons_succ, List.set_cons_zero] at hs
  first | refine lw_val rfl (run_assign (v := errV ad _) rfl) ?_ | refine lw_val rfl (run_assign (v := .nilIface) rfl) ?_
  refine lw_nil ?_
  refine cw_seq ?_
  refine cw_region ?_
  first | refine lw_val rfl (run_move (v := errV ad _) rfl) ?_ | refine lw_val rfl (run_move (v := .nilIface) rfl) ?_
  first | refine lw_val rfl (run_eqerrn (ad := ad) rfl) ?_ | refine lw_val rfl (run_eqnn rfl) ?_
  first | refine lw_val rfl (run_move (v := .bool _) rfl) ?_
  refine lw_on rfl rfl (decide_eq_true hc.symm) ?_
  first | refine lw_val rfl (run_fieldAddr (o' := 4) Tryd.underlying38 rfl sz3 rfl rfl rfl) ?_ | refine lw_val rfl (run_fieldAddr Tryd.underlying38 rfl sz3 rfl rfl rfl) ?_
  refine lw_on rfl rfl (decide_eq_true hc.symm) ?_
  first | refine lw_val rfl (run_load Tryd.underlying3 rfl rfl (hs.cellAt 0 rfl rfl)) ?_ | refine lw_val rfl (run_load Tryd.underlying3 rfl rfl (hs.cellAt 1 rfl rfl)) ?_ | refine lw_val rfl (run_load Tryd.underlying3 rfl rfl (hs.cellAt 2 rfl rfl)) ?_ | refine lw_val rfl (run_load Tryd.underlying3 rfl rfl (hs.cellAt 3 rfl rfl)) ?_ | refine lw_val rfl (run_load Tryd.underlying3 rfl rfl (hs.cellAt 4 rfl rfl)) ?_ | refine lw_val rfl (run_load Tryd.underlying3 rfl rfl (hs.cellAt 5 rfl rfl)) ?_ | refine lw_val rfl (run_load Tryd.underlying3 rfl rfl (hs.cellAt 6 rfl rfl)) ?_ | refine lw_val rfl (run_load Tryd.underlying3 rfl rfl (hs.cellAt 7 rfl rfl)) ?_ | refine lw_val rfl (run_load Tryd.underlying3 rfl rfl (hs.cellAt 8 rfl rfl)) ?_ | refine lw_val rfl (run_load Tryd.underlying3 rfl rfl (hs.cellAt 9 rfl rfl)) ?_ | refine lw_val rfl (run_load Tryd.underlying3 rfl rfl (hs.cellAt 10 rfl rfl)) ?_ | refine lw_val rfl (run_load Tryd.underlying3 rfl rfl (hs.cellAt 11 rfl rfl)) ?_ | refine lw_val rfl (run_load Tryd.underlying3 rfl rfl (hs.cellAt 12 rfl rfl)) ?_ | refine lw_val rfl (run_load Tryd.underlying3 rfl rfl (hs.cellAt 13 rfl rfl)) ?_
  refine lw_on rfl rfl (decide_eq_true hc.symm) ?_
  refine lw_val rfl (run_eqi rfl rfl) ?_
  first | refine lw_val rfl (run_pickT (v := .bool _) rfl (decide_eq_true hc.symm) rfl) ?_
  first | refine lw_val rfl (run_assign (v := .bool _) rfl) ?_
  refine lw_nil ?_
  refine cw_ret ?_
  refine res1 (v := .bool _) rfl rfl ?_
  exact ⟨_, rfl, rfl, hs.tail.tail⟩

theorem partsN_lt {size e k : Nat} (h1 : 1 ≤ e) (hk : k < partsN size e) : k * e < size := by
  unfold partsN at hk
  have h2 : (size + e - 1) / e * e ≤ size + e - 1 := Nat.div_mul_le_self _ _
  have h3 : (k + 1) * e ≤ (size + e - 1) / e * e := Nat.mul_le_mul_right e (by omega)
  rw [Nat.succ_mul] at h3
  omega
theorem partsN_end {size e : Nat} (h1 : 1 ≤ e) : size ≤ partsN size e * e := by
  unfold partsN
  have h2 := Nat.div_add_mod (size + e - 1) e
  have h3 := Nat.mod_lt (size + e - 1) (show e > 0 by omega)
  rw [Nat.mul_comm] at h2
  omega
theorem mk_bad {name : ByteArray} {l : List UInt8} {each : Int} {c : Nat} {nm : ByteArray} {sz sm ea pa : Int} (hm : mkR name l each = (c, nm, sz, sm, ea, pa)) {d : Nat} (h : mkR name l each = (d, ByteArray.empty, 0, 0, 0, 0)) : c = d ∧ nm = ByteArray.empty ∧ sz = 0 := by
  rw [hm] at h
  simp only [Prod.mk.injEq] at h
  exact ⟨h.1, h.2.1, h.2.2.1⟩
set_option maxHeartbeats 1000000 in
set_option maxRecDepth 10000 in
theorem partMakes_sl (hA : ErrA ad g) (hs : Mem g w []) {name : ByteArray} {a : Option Addr} {n c : Nat} {l : List UInt8} {each q : Int} (hb : Came g (.slice a n c) (bytesL l)) (hn : n = l.length) (heach : InI64 each) :
    Calls Tryd.prog 4 #[.string name, .slice a n c, .int .i64 each, .int .i64 q] w (Ret fun v w' => v = .bool true ∧ Mem g w' []) := by
  have hE := hA.core
  subst hn
  obtain ⟨he1, he2⟩ := heach
  refine calls_cw Tryd.func4 rfl rfl ?_
  skip
  refine cw_seq ?_
  refine cw_region ?_
  first | refine lw_val rfl (run_assign (v := .bool _) rfl) ?_
  refine lw_nil ?_
  refine cw_seq ?_
  refine cw_region ?_
  refine lw_call rfl en28 (first13_sl hE hs) ?_
  clear hs
  rintro _ w ⟨rfl, hs⟩
  first | refine lw_val rfl (run_assign (v := .bool _) rfl) ?_
  refine lw_nil ?_
  refine cw_seq ?_
  refine cw_seq ?_
  refine cw_region ?_
  first | refine lw_val rfl (run_move (v := .bool _) rfl) ?_
  refine lw_val rfl (run_not rfl) ?_
  refine lw_nil ?_
  refine cw_iff rfl (not_f (rfl)) ?_
  refine cw_skip ?_
  refine cw_seq ?_
  refine cw_seq ?_
  refine cw_region ?_
  first | refine lw_val rfl (run_move (v := .string _) rfl) ?_
  refine lw_val rfl (run_lenT Tryd.underlying9 rfl) ?_
  refine lw_val rfl (run_gtr rfl rfl) ?_
  first | refine lw_val rfl (run_move (v := .bool _) rfl) ?_
  refine lw_split (t := _) (d := 34) rfl ?_ ?_
  · intro h33
    have g33 := of_decide_eq_true h33
    refine lw_off rfl rfl rfl h33 ?_
    refine lw_off rfl rfl rfl h33 ?_
    refine lw_off rfl rfl rfl h33 ?_
    first | refine lw_val rfl (run_pickT (v := .bool _) rfl h33 rfl) ?_
    first | refine lw_val rfl (run_move (v := .bool _) rfl) ?_
    refine lw_off rfl rfl rfl rfl ?_
    refine lw_off rfl rfl rfl rfl ?_
    first | refine lw_val rfl (run_pickT (v := .bool _) rfl rfl rfl) ?_
    refine lw_nil ?_
    refine cw_ift rfl rfl ?_
    refine cw_seq ?_
    refine cw_region ?_
    first | refine lw_val rfl (run_move (v := .bool _) rfl) ?_
    first | refine lw_val rfl (run_assign (v := .bool _) rfl) ?_
    refine lw_nil ?_
    refine cw_ret ?_
    refine res1 (v := .bool _) rfl rfl ?_
    exact ⟨_, rfl, rfl, hs.nil⟩
  · intro h33
    have g33 := of_decide_eq_false h33
    refine lw_on rfl rfl h33 ?_
    first | refine lw_val rfl (run_move (v := .slice _ _ _) rfl) ?_
    refine lw_on rfl rfl h33 ?_
    refine lw_val rfl (run_lenS Tryd.underlying27 rfl) ?_
    refine lw_on rfl rfl h33 ?_
    refine lw_val rfl (run_gtr rfl rfl) ?_
    first | refine lw_val rfl (run_pickF (v := .bool _) rfl h33 rfl) ?_
    first | refine lw_val rfl (run_move (v := .bool _) rfl) ?_
    refine lw_split (t := _) (d := 39) rfl ?_ ?_
    · intro h37
      have g37 := of_decide_eq_true h37
      refine lw_off rfl rfl rfl h37 ?_
      refine lw_off rfl rfl rfl h37 ?_
      first | refine lw_val rfl (run_pickT (v := .bool _) rfl h37 rfl) ?_
      refine lw_nil ?_
      refine cw_ift rfl rfl ?_
      refine cw_seq ?_
      refine cw_region ?_
      first | refine lw_val rfl (run_move (v := .bool _) rfl) ?_
      first | refine lw_val rfl (run_assign (v := .bool _) rfl) ?_
      refine lw_nil ?_
      refine cw_ret ?_
      refine res1 (v := .bool _) rfl rfl ?_
      exact ⟨_, rfl, rfl, hs.nil⟩
    · intro h37
      have g37 := of_decide_eq_false h37
      have hlen : l.length ≤ 500 := by omega
      refine lw_on rfl rfl h37 ?_
      first | refine lw_val rfl (run_move (v := .bool _) rfl) ?_
      refine lw_on rfl rfl h37 ?_
      refine lw_val rfl (run_not rfl) ?_
      first | refine lw_val rfl (run_pickF (v := .bool _) rfl h37 rfl) ?_
      refine lw_nil ?_
      refine cw_iff rfl (not_f (rfl)) ?_
      refine cw_skip ?_
      refine cw_seq ?_
      refine cw_region ?_
      first | refine lw_val rfl (run_move (v := .string _) rfl) ?_
      first | refine lw_val rfl (run_move (v := .slice _ _ _) rfl) ?_
      first | refine lw_val rfl (run_move (v := .int .i64 _) rfl) ?_
      refine lw_call rfl en29 (make_sl hE hs (hb.rd _) rfl (by omega) (inI he1 he2)) ?_
      clear hs
      rintro _ w ⟨c6, nm, sz, sm, ea, pa, hm, rfl, hs⟩
      first | refine lw_val rfl (run_move (v := .tuple _) rfl) ?_
      first | refine lw_val rfl (run_extract (v := .agg _) rfl rfl) ?_
      first | refine lw_val rfl (run_extract (v := errV ad _) rfl rfl) ?_ | refine lw_val rfl (run_extract (v := .nilIface) rfl rfl) ?_
      refine lw_alloc hs rfl ze38 ?_
      clear hs
      intro b10 w hs
      try simp only [List.set_cons_succ, List.set_cons_zero] at hs
      first | refine lw_storeRow hs 0 rfl rfl rfl sz38 rfl rfl ?_ | refine lw_storeRow hs 1 rfl rfl rfl sz38 rfl rfl ?_ | refine lw_storeRow hs 2 rfl rfl rfl sz38 rfl rfl ?_ | refine lw_storeRow hs 3 rfl rfl rfl sz38 rfl rfl ?_ | refine lw_storeRow hs 4 rfl rfl rfl sz38 rfl rfl ?_ | refine lw_storeRow hs 5 rfl rfl rfl sz38 rfl rfl ?_ | refine lw_storeRow hs 6 rfl rfl rfl sz38 rfl rfl ?_ | refine lw_storeRow hs 7 rfl rfl rfl sz38 rfl rfl ?_ | refine lw_storeRow hs 8 rfl rfl rfl sz38 rfl rfl ?_ | refine lw_storeRow hs 9 rfl rfl rfl sz38 rfl rfl ?_ | refine lw_storeRow hs 10 rfl rfl rfl sz38 rfl rfl ?_ | refine lw_storeRow hs 11 rfl rfl rfl sz38 rfl rfl ?_ | refine lw_storeRow hs 12 rfl rfl rfl sz38 rfl rfl ?_ | refine lw_storeRow hs 13 rfl rfl rfl sz38 rfl rfl ?_
      clear hs
      intro w hs
      try simp only [List.set_cons_succ, List.set_cons_zero] at hs
      first | refine lw_val rfl (run_assign (v := errV ad _) rfl) ?_ | refine lw_val rfl (run_assign (v := .nilIface) rfl) ?_
      refine lw_nil ?_
      refine cw_seq ?_
      refine cw_region ?_
      first | refine lw_val rfl (run_assign (v := .int .i64 _) rfl) ?_
      refine lw_nil ?_
      refine cw_seq ?_
      refine cw_region ?_
      first | refine lw_val rfl (run_assign (v := .int .i64 _) rfl) ?_
      refine lw_nil ?_
      refine cw_seq ?_
      refine cw_block ?_
      refine cw_seq ?_
      refine cw_region ?_
      first | refine lw_val rfl (run_move (v := .string _) rfl) ?_
      refine lw_call rfl en30 (hs.callsE (refValid_any _ _)) ?_
      clear hs
      rintro _ w ⟨rfl, hs⟩
      refine lw_val rfl (run_not rfl) ?_
      first | refine lw_val rfl (run_assign (v := .bool _) rfl) ?_
      refine lw_nil ?_
      refine cw_if rfl ?_ ?_
      · intro h62
        replace h62 := not_b h62
        obtain ⟨rfl, rfl, rfl⟩ := mk_bad hm (d := 106) (by unfold mkR; rw [if_pos h62])
        refine cw_region ?_
        first | refine lw_val rfl (run_assign (v := .int .i64 _) rfl) ?_
        refine lw_nil ?_
        refine cw_seq ?_
        refine cw_seq ?_
        refine cw_region ?_
        first | refine lw_val rfl (run_move (v := .int .i64 _) rfl) ?_
        refine lw_val rfl (run_nei rfl rfl) ?_
        refine lw_nil ?_
        refine cw_ift rfl (rfl) ?_
        refine cw_seq ?_
        refine cw_region ?_
        first | refine lw_val rfl (run_move (v := errV ad _) rfl) ?_ | refine lw_val rfl (run_move (v := .nilIface) rfl) ?_
        first | refine lw_val rfl (run_move (v := .int .i64 _) rfl) ?_
        refine lw_call rfl en25 (is_sl hA hs (d := _) (.inr (by decide)) _) ?_
        clear hs
        rintro _ w ⟨rfl, hs⟩
        first | refine lw_val rfl (run_move (v := .bool _) rfl) ?_
        refine lw_on rfl rfl (rfl) ?_
        first | refine lw_val rfl (run_fieldAddr (o' := 1) Tryd.underlying38 rfl sz3 rfl rfl rfl) ?_ | refine lw_val rfl (run_fieldAddr Tryd.underlying38 rfl sz3 rfl rfl rfl) ?_
        refine lw_on rfl rfl (rfl) ?_
        first | refine lw_val rfl (run_load Tryd.underlying3 rfl rfl (hs.cellAt 0 rfl rfl)) ?_ | refine lw_val rfl (run_load Tryd.underlying3 rfl rfl (hs.cellAt 1 rfl rfl)) ?_ | refine lw_val rfl (run_load Tryd.underlying3 rfl rfl (hs.cellAt 2 rfl rfl)) ?_ | refine lw_val rfl (run_load Tryd.underlying3 rfl rfl (hs.cellAt 3 rfl rfl)) ?_ | refine lw_val rfl (run_load Tryd.underlying3 rfl rfl (hs.cellAt 4 rfl rfl)) ?_ | refine lw_val rfl (run_load Tryd.underlying3 rfl rfl (hs.cellAt 5 rfl rfl)) ?_ | refine lw_val rfl (run_load Tryd.underlying3 rfl rfl (hs.cellAt 6 rfl rfl)) ?_ | refine lw_val rfl (run_load Tryd.underlying3 rfl rfl (hs.cellAt 7 rfl rfl)) ?_ | refine lw_val rfl (run_load Tryd.underlying3 rfl rfl (hs.cellAt 8 rfl rfl)) ?_ | refine lw_val rfl (run_load Tryd.underlying3 rfl rfl (hs.cellAt 9 rfl rfl)) ?_ | refine lw_val rfl (run_load Tryd.underlying3 rfl rfl (hs.cellAt 10 rfl rfl)) ?_ | refine lw_val rfl (run_load Tryd.underlying3 rfl rfl (hs.cellAt 11 rfl rfl)) ?_ | refine lw_val rfl (run_load Tryd.underlying3 rfl rfl (hs.cellAt 12 rfl rfl)) ?_ | refine lw_val rfl (run_load Tryd.underlying3 rfl rfl (hs.cellAt 13 rfl rfl)) ?_
        refine lw_on rfl rfl (rfl) ?_
        refine lw_val rfl (run_eqi rfl rfl) ?_
        first | refine lw_val rfl (run_pickT (v := .bool _) rfl (rfl) rfl) ?_
        first | refine lw_val rfl (run_move (v := .bool _) rfl) ?_
        refine lw_on rfl rfl (rfl) ?_
        first | refine lw_val rfl (run_fieldAddr (o' := 0) Tryd.underlying38 rfl sz9 rfl rfl rfl) ?_ | refine lw_val rfl (run_fieldAddr Tryd.underlying38 rfl sz9 rfl rfl rfl) ?_
        refine lw_on rfl rfl (rfl) ?_
        first | refine lw_val rfl (run_load Tryd.underlying9 rfl rfl (hs.cellAt 0 rfl rfl)) ?_ | refine lw_val rfl (run_load Tryd.underlying9 rfl rfl (hs.cellAt 1 rfl rfl)) ?_ | refine lw_val rfl (run_load Tryd.underlying9 rfl rfl (hs.cellAt 2 rfl rfl)) ?_ | refine lw_val rfl (run_load Tryd.underlying9 rfl rfl (hs.cellAt 3 rfl rfl)) ?_ | refine lw_val rfl (run_load Tryd.underlying9 rfl rfl (hs.cellAt 4 rfl rfl)) ?_ | refine lw_val rfl (run_load Tryd.underlying9 rfl rfl (hs.cellAt 5 rfl rfl)) ?_ | refine lw_val rfl (run_load Tryd.underlying9 rfl rfl (hs.cellAt 6 rfl rfl)) ?_ | refine lw_val rfl (run_load Tryd.underlying9 rfl rfl (hs.cellAt 7 rfl rfl)) ?_ | refine lw_val rfl (run_load Tryd.underlying9 rfl rfl (hs.cellAt 8 rfl rfl)) ?_ | refine lw_val rfl (run_load Tryd.underlying9 rfl rfl (hs.cellAt 9 rfl rfl)) ?_ | refine lw_val rfl (run_load Tryd.underlying9 rfl rfl (hs.cellAt 10 rfl rfl)) ?_ | refine lw_val rfl (run_load Tryd.underlying9 rfl rfl (hs.cellAt 11 rfl rfl)) ?_ | refine lw_val rfl (run_load Tryd.underlying9 rfl rfl (hs.cellAt 12 rfl rfl)) ?_ | refine lw_val rfl (run_load Tryd.underlying9 rfl rfl (hs.cellAt 13 rfl rfl)) ?_
        refine lw_on rfl rfl (rfl) ?_
        refine lw_val rfl (run_eqs rfl rfl) ?_
        first | refine lw_val rfl (run_pickT (v := .bool _) rfl (rfl) rfl) ?_
        first | refine lw_val rfl (run_assign (v := .bool _) rfl) ?_
        refine lw_nil ?_
        refine cw_ret ?_
        refine res1 (v := .bool _) rfl rfl ?_
        exact ⟨_, rfl, rfl, hs.nil⟩
      · intro h62
        replace h62 := not_c h62
        refine cw_seq ?_
        refine cw_region ?_
        first | refine lw_val rfl (run_move (v := .int .i64 _) rfl) ?_
        refine lw_val rfl (run_lss rfl rfl) ?_
        first | refine lw_val rfl (run_move (v := .bool _) rfl) ?_
        refine lw_split (t := _) (d := 67) rfl ?_ ?_
        · intro h66
          have g66 := of_decide_eq_true h66
          obtain ⟨rfl, rfl, rfl⟩ := mk_bad hm (d := 105) (by unfold mkR; rw [if_neg (by simp [h62]), if_pos (by omega)])
          refine lw_off rfl rfl rfl h66 ?_
          refine lw_off rfl rfl rfl h66 ?_
          first | refine lw_val rfl (run_pickT (v := .bool _) rfl h66 rfl) ?_
          first | refine lw_val rfl (run_assign (v := .bool _) rfl) ?_
          refine lw_nil ?_
          refine cw_ift rfl rfl ?_
          refine cw_region ?_
          first | refine lw_val rfl (run_assign (v := .int .i64 _) rfl) ?_
          refine lw_nil ?_
          refine cw_seq ?_
          refine cw_seq ?_
          refine cw_region ?_
          first | refine lw_val rfl (run_move (v := .int .i64 _) rfl) ?_
          refine lw_val rfl (run_nei rfl rfl) ?_
          refine lw_nil ?_
          refine cw_ift rfl (rfl) ?_
          refine cw_seq ?_
          refine cw_region ?_
          first | refine lw_val rfl (run_move (v := errV ad _) rfl) ?_ | refine lw_val rfl (run_move (v := .nilIface) rfl) ?_
          first | refine lw_val rfl (run_move (v := .int .i64 _) rfl) ?_
          refine lw_call rfl en25 (is_sl hA hs (d := _) (.inr (by decide)) _) ?_
          clear hs
          rintro _ w ⟨rfl, hs⟩
          first | refine lw_val rfl (run_move (v := .bool _) rfl) ?_
          refine lw_on rfl rfl (rfl) ?_
          first | refine lw_val rfl (run_fieldAddr (o' := 1) Tryd.underlying38 rfl sz3 rfl rfl rfl) ?_ | refine lw_val rfl (run_fieldAddr Tryd.underlying38 rfl sz3 rfl rfl rfl) ?_
          refine lw_on rfl rfl (rfl) ?_
          first | refine lw_val rfl (run_load Tryd.underlying3 rfl rfl (hs.cellAt 0 rfl rfl)) ?_ | refine lw_val rfl (run_load Tryd.underlying3 rfl rfl (hs.cellAt 1 rfl rfl)) ?_ | refine lw_val rfl (run_load Tryd.underlying3 rfl rfl (hs.cellAt 2 rfl rfl)) ?_ | refine lw_val rfl (run_load Tryd.underlying3 rfl rfl (hs.cellAt 3 rfl rfl)) ?_ | refine lw_val rfl (run_load Tryd.underlying3 rfl rfl (hs.cellAt 4 rfl rfl)) ?_ | refine lw_val rfl (run_load Tryd.underlying3 rfl rfl (hs.cellAt 5 rfl rfl)) ?_ | refine lw_val rfl (run_load Tryd.underlying3 rfl rfl (hs.cellAt 6 rfl rfl)) ?_ | refine lw_val rfl (run_load Tryd.underlying3 rfl rfl (hs.cellAt 7 rfl rfl)) ?_ | refine lw_val rfl (run_load Tryd.underlying3 rfl rfl (hs.cellAt 8 rfl rfl)) ?_ | refine lw_val rfl (run_load Tryd.underlying3 rfl rfl (hs.cellAt 9 rfl rfl)) ?_ | refine lw_val rfl (run_load Tryd.underlying3 rfl rfl (hs.cellAt 10 rfl rfl)) ?_ | refine lw_val rfl (run_load Tryd.underlying3 rfl rfl (hs.cellAt 11 rfl rfl)) ?_ | refine lw_val rfl (run_load Tryd.underlying3 rfl rfl (hs.cellAt 12 rfl rfl)) ?_ | refine lw_val rfl (run_load Tryd.underlying3 rfl rfl (hs.cellAt 13 rfl rfl)) ?_
          refine lw_on rfl rfl (rfl) ?_
          refine lw_val rfl (run_eqi rfl rfl) ?_
          first | refine lw_val rfl (run_pickT (v := .bool _) rfl (rfl) rfl) ?_
          first | refine lw_val rfl (run_move (v := .bool _) rfl) ?_
          refine lw_on rfl rfl (rfl) ?_
          first | refine lw_val rfl (run_fieldAddr (o' := 0) Tryd.underlying38 rfl sz9 rfl rfl rfl) ?_ | refine lw_val rfl (run_fieldAddr Tryd.underlying38 rfl sz9 rfl rfl rfl) ?_
          refine lw_on rfl rfl (rfl) ?_
          first | refine lw_val rfl (run_load Tryd.underlying9 rfl rfl (hs.cellAt 0 rfl rfl)) ?_ | refine lw_val rfl (run_load Tryd.underlying9 rfl rfl (hs.cellAt 1 rfl rfl)) ?_ | refine lw_val rfl (run_load Tryd.underlying9 rfl rfl (hs.cellAt 2 rfl rfl)) ?_ | refine lw_val rfl (run_load Tryd.underlying9 rfl rfl (hs.cellAt 3 rfl rfl)) ?_ | refine lw_val rfl (run_load Tryd.underlying9 rfl rfl (hs.cellAt 4 rfl rfl)) ?_ | refine lw_val rfl (run_load Tryd.underlying9 rfl rfl (hs.cellAt 5 rfl rfl)) ?_ | refine lw_val rfl (run_load Tryd.underlying9 rfl rfl (hs.cellAt 6 rfl rfl)) ?_ | refine lw_val rfl (run_load Tryd.underlying9 rfl rfl (hs.cellAt 7 rfl rfl)) ?_ | refine lw_val rfl (run_load Tryd.underlying9 rfl rfl (hs.cellAt 8 rfl rfl)) ?_ | refine lw_val rfl (run_load Tryd.underlying9 rfl rfl (hs.cellAt 9 rfl rfl)) ?_ | refine lw_val rfl (run_load Tryd.underlying9 rfl rfl (hs.cellAt 10 rfl rfl)) ?_ | refine lw_val rfl (run_load Tryd.underlying9 rfl rfl (hs.cellAt 11 rfl rfl)) ?_ | refine lw_val rfl (run_load Tryd.underlying9 rfl rfl (hs.cellAt 12 rfl rfl)) ?_ | refine lw_val rfl (run_load Tryd.underlying9 rfl rfl (hs.cellAt 13 rfl rfl)) ?_
          refine lw_on rfl rfl (rfl) ?_
          refine lw_val rfl (run_eqs rfl rfl) ?_
          first | refine lw_val rfl (run_pickT (v := .bool _) rfl (rfl) rfl) ?_
          first | refine lw_val rfl (run_assign (v := .bool _) rfl) ?_
          refine lw_nil ?_
          refine cw_ret ?_
          refine res1 (v := .bool _) rfl rfl ?_
          exact ⟨_, rfl, rfl, hs.nil⟩
        · intro h66
          have g66 := of_decide_eq_false h66
          refine lw_on rfl rfl h66 ?_
          first | refine lw_val rfl (run_move (v := .int .i64 _) rfl) ?_
          refine lw_on rfl rfl h66 ?_
          refine lw_val rfl (run_gtr rfl rfl) ?_
          first | refine lw_val rfl (run_pickF (v := .bool _) rfl h66 rfl) ?_
          first | refine lw_val rfl (run_assign (v := .bool _) rfl) ?_
          refine lw_nil ?_
          refine cw_if rfl ?_ ?_
          · intro h69
            have g69 := of_decide_eq_true h69
            obtain ⟨rfl, rfl, rfl⟩ := mk_bad hm (d := 105) (by unfold mkR; rw [if_neg (by simp [h62]), if_pos (by omega)])
            refine cw_region ?_
            first | refine lw_val rfl (run_assign (v := .int .i64 _) rfl) ?_
            refine lw_nil ?_
            refine cw_seq ?_
            refine cw_seq ?_
            refine cw_region ?_
            first | refine lw_val rfl (run_move (v := .int .i64 _) rfl) ?_
            refine lw_val rfl (run_nei rfl rfl) ?_
            refine lw_nil ?_
            refine cw_ift rfl (rfl) ?_
            refine cw_seq ?_
            refine cw_region ?_
            first | refine lw_val rfl (run_move (v := errV ad _) rfl) ?_ | refine lw_val rfl (run_move (v := .nilIface) rfl) ?_
            first | refine lw_val rfl (run_move (v := .int .i64 _) rfl) ?_
            refine lw_call rfl en25 (is_sl hA hs (d := _) (.inr (by decide)) _) ?_
            clear hs
            rintro _ w ⟨rfl, hs⟩
            first | refine lw_val rfl (run_move (v := .bool _) rfl) ?_
            refine lw_on rfl rfl (rfl) ?_
            first | refine lw_val rfl (run_fieldAddr (o' := 1) Tryd.underlying38 rfl sz3 rfl rfl rfl) ?_ | refine lw_val rfl (run_fieldAddr Tryd.underlying38 rfl sz3 rfl rfl rfl) ?_
            refine lw_on rfl rfl (rfl) ?_
            first | refine lw_val rfl (run_load Tryd.underlying3 rfl rfl (hs.cellAt 0 rfl rfl)) ?_ | refine lw_val rfl (run_load Tryd.underlying3 rfl rfl (hs.cellAt 1 rfl rfl)) ?_ | refine lw_val rfl (run_load Tryd.underlying3 rfl rfl (hs.cellAt 2 rfl rfl)) ?_ | refine lw_val rfl (run_load Tryd.underlying3 rfl rfl (hs.cellAt 3 rfl rfl)) ?_ | refine lw_val rfl (run_load Tryd.underlying3 rfl rfl (hs.cellAt 4 rfl rfl)) ?_ | refine lw_val rfl (run_load Tryd.underlying3 rfl rfl (hs.cellAt 5 rfl rfl)) ?_ | refine lw_val rfl (run_load Tryd.underlying3 rfl rfl (hs.cellAt 6 rfl rfl)) ?_ | refine lw_val rfl (run_load Tryd.underlying3 rfl rfl (hs.cellAt 7 rfl rfl)) ?_ | refine lw_val rfl (run_load Tryd.underlying3 rfl rfl (hs.cellAt 8 rfl rfl)) ?_ | refine lw_val rfl (run_load Tryd.underlying3 rfl rfl (hs.cellAt 9 rfl rfl)) ?_ | refine lw_val rfl (run_load Tryd.underlying3 rfl rfl (hs.cellAt 10 rfl rfl)) ?_ | refine lw_val rfl (run_load Tryd.underlying3 rfl rfl (hs.cellAt 11 rfl rfl)) ?_ | refine lw_val rfl (run_load Tryd.underlying3 rfl rfl (hs.cellAt 12 rfl rfl)) ?_ | refine lw_val rfl (run_load Tryd.underlying3 rfl rfl (hs.cellAt 13 rfl rfl)) ?_
            refine lw_on rfl rfl (rfl) ?_
            refine lw_val rfl (run_eqi rfl rfl) ?_
            first | refine lw_val rfl (run_pickT (v := .bool _) rfl (rfl) rfl) ?_
            first | refine lw_val rfl (run_move (v := .bool _) rfl) ?_
            refine lw_on rfl rfl (rfl) ?_
            first | refine lw_val rfl (run_fieldAddr (o' := 0) Tryd.underlying38 rfl sz9 rfl rfl rfl) ?_ | refine lw_val rfl (run_fieldAddr Tryd.underlying38 rfl sz9 rfl rfl rfl) ?_
            refine lw_on rfl rfl (rfl) ?_
            first | refine lw_val rfl (run_load Tryd.underlying9 rfl rfl (hs.cellAt 0 rfl rfl)) ?_ | refine lw_val rfl (run_load Tryd.underlying9 rfl rfl (hs.cellAt 1 rfl rfl)) ?_ | refine lw_val rfl (run_load Tryd.underlying9 rfl rfl (hs.cellAt 2 rfl rfl)) ?_ | refine lw_val rfl (run_load Tryd.underlying9 rfl rfl (hs.cellAt 3 rfl rfl)) ?_ | refine lw_val rfl (run_load Tryd.underlying9 rfl rfl (hs.cellAt 4 rfl rfl)) ?_ | refine lw_val rfl (run_load Tryd.underlying9 rfl rfl (hs.cellAt 5 rfl rfl)) ?_ | refine lw_val rfl (run_load Tryd.underlying9 rfl rfl (hs.cellAt 6 rfl rfl)) ?_ | refine lw_val rfl (run_load Tryd.underlying9 rfl rfl (hs.cellAt 7 rfl rfl)) ?_ | refine lw_val rfl (run_load Tryd.underlying9 rfl rfl (hs.cellAt 8 rfl rfl)) ?_ | refine lw_val rfl (run_load Tryd.underlying9 rfl rfl (hs.cellAt 9 rfl rfl)) ?_ | refine lw_val rfl (run_load Tryd.underlying9 rfl rfl (hs.cellAt 10 rfl rfl)) ?_ | refine lw_val rfl (run_load Tryd.underlying9 rfl rfl (hs.cellAt 11 rfl rfl)) ?_ | refine lw_val rfl (run_load Tryd.underlying9 rfl rfl (hs.cellAt 12 rfl rfl)) ?_ | refine lw_val rfl (run_load Tryd.underlying9 rfl rfl (hs.cellAt 13 rfl rfl)) ?_
            refine lw_on rfl rfl (rfl) ?_
            refine lw_val rfl (run_eqs rfl rfl) ?_
            first | refine lw_val rfl (run_pickT (v := .bool _) rfl (rfl) rfl) ?_
            first | refine lw_val rfl (run_assign (v := .bool _) rfl) ?_
            refine lw_nil ?_
            refine cw_ret ?_
            refine res1 (v := .bool _) rfl rfl ?_
            exact ⟨_, rfl, rfl, hs.nil⟩
          · intro h69
            have g69 := of_decide_eq_false h69
            obtain ⟨e, rfl⟩ : ∃ e : Nat, each = e := ⟨each.toNat, by omega⟩
            have hq : (((l.length : Int) + (e : Int) - 1) / (e : Int)) = ((partsN l.length e : Nat) : Int) := by unfold partsN; rw [Int.natCast_ediv, Int.natCast_sub (by omega)]; rfl
            refine cw_seq ?_
            refine cw_region ?_
            first | refine lw_val rfl (run_move (v := .slice _ _ _) rfl) ?_
            refine lw_val rfl (run_lenS Tryd.underlying27 rfl) ?_
            first | refine lw_val rfl (run_move (v := .int .i64 _) rfl) ?_
            refine lw_val rfl (run_add64 rfl rfl rfl (inI (by omega) (by omega))) ?_
            refine lw_val rfl (run_sub64 rfl rfl rfl (inI (by omega) (by omega))) ?_
            first | refine lw_val rfl (run_move (v := .int .i64 _) rfl) ?_
            refine lw_val rfl (run_quo64 rfl rfl (by omega) (by omega) hq (inI (by omega) (by omega))) ?_
            first | refine lw_val rfl (run_assign (v := .int .i64 _) rfl) ?_
            refine lw_nil ?_
            refine cw_seq ?_
            refine cw_region ?_
            first | refine lw_val rfl (run_move (v := .int .i64 _) rfl) ?_
            refine lw_val rfl (run_gtr rfl rfl) ?_
            refine lw_nil ?_
            refine cw_if rfl ?_ ?_
            · intro h59
              have g59 := of_decide_eq_true h59
              obtain ⟨rfl, rfl, rfl⟩ := mk_bad hm (d := 104) (by unfold mkR; rw [if_neg (by simp [h62]), if_neg (by omega), if_pos (by simp; omega)])
              refine cw_region ?_
              first | refine lw_val rfl (run_assign (v := .int .i64 _) rfl) ?_
              refine lw_nil ?_
              refine cw_seq ?_
              refine cw_seq ?_
              refine cw_region ?_
              first | refine lw_val rfl (run_move (v := .int .i64 _) rfl) ?_
              refine lw_val rfl (run_nei rfl rfl) ?_
              refine lw_nil ?_
              refine cw_ift rfl (rfl) ?_
              refine cw_seq ?_
              refine cw_region ?_
              first | refine lw_val rfl (run_move (v := errV ad _) rfl) ?_ | refine lw_val rfl (run_move (v := .nilIface) rfl) ?_
              first | refine lw_val rfl (run_move (v := .int .i64 _) rfl) ?_
              refine lw_call rfl en25 (is_sl hA hs (d := _) (.inr (by decide)) _) ?_
              clear hs
              rintro _ w ⟨rfl, hs⟩
              first | refine lw_val rfl (run_move (v := .bool _) rfl) ?_
              refine lw_on rfl rfl (rfl) ?_
              first | refine lw_val rfl (run_fieldAddr (o' := 1) Tryd.underlying38 rfl sz3 rfl rfl rfl) ?_ | refine lw_val rfl (run_fieldAddr Tryd.underlying38 rfl sz3 rfl rfl rfl) ?_
              refine lw_on rfl rfl (rfl) ?_
              first | refine lw_val rfl (run_load Tryd.underlying3 rfl rfl (hs.cellAt 0 rfl rfl)) ?_ | refine lw_val rfl (run_load Tryd.underlying3 rfl rfl (hs.cellAt 1 rfl rfl)) ?_ | refine lw_val rfl (run_load Tryd.underlying3 rfl rfl (hs.cellAt 2 rfl rfl)) ?_ | refine lw_val rfl (run_load Tryd.underlying3 rfl rfl (hs.cellAt 3 rfl rfl)) ?_ | refine lw_val rfl (run_load Tryd.underlying3 rfl rfl (hs.cellAt 4 rfl rfl)) ?_ | refine lw_val rfl (run_load Tryd.underlying3 rfl rfl (hs.cellAt 5 rfl rfl)) ?_ | refine lw_val rfl (run_load Tryd.underlying3 rfl rfl (hs.cellAt 6 rfl rfl)) ?_ | refine lw_val rfl (run_load Tryd.underlying3 rfl rfl (hs.cellAt 7 rfl rfl)) ?_ | refine lw_val rfl (run_load Tryd.underlying3 rfl rfl (hs.cellAt 8 rfl rfl)) ?_ | refine lw_val rfl (run_load Tryd.underlying3 rfl rfl (hs.cellAt 9 rfl rfl)) ?_ | refine lw_val rfl (run_load Tryd.underlying3 rfl rfl (hs.cellAt 10 rfl rfl)) ?_ | refine lw_val rfl (run_load Tryd.underlying3 rfl rfl (hs.cellAt 11 rfl rfl)) ?_ | refine lw_val rfl (run_load Tryd.underlying3 rfl rfl (hs.cellAt 12 rfl rfl)) ?_ | refine lw_val rfl (run_load Tryd.underlying3 rfl rfl (hs.cellAt 13 rfl rfl)) ?_
              refine lw_on rfl rfl (rfl) ?_
              refine lw_val rfl (run_eqi rfl rfl) ?_
              first | refine lw_val rfl (run_pickT (v := .bool _) rfl (rfl) rfl) ?_
              first | refine lw_val rfl (run_move (v := .bool _) rfl) ?_
              refine lw_on rfl rfl (rfl) ?_
              first | refine lw_val rfl (run_fieldAddr (o' := 0) Tryd.underlying38 rfl sz9 rfl rfl rfl) ?_ | refine lw_val rfl (run_fieldAddr Tryd.underlying38 rfl sz9 rfl rfl rfl) ?_
              refine lw_on rfl rfl (rfl) ?_
              first | refine lw_val rfl (run_load Tryd.underlying9 rfl rfl (hs.cellAt 0 rfl rfl)) ?_ | refine lw_val rfl (run_load Tryd.underlying9 rfl rfl (hs.cellAt 1 rfl rfl)) ?_ | refine lw_val rfl (run_load Tryd.underlying9 rfl rfl (hs.cellAt 2 rfl rfl)) ?_ | refine lw_val rfl (run_load Tryd.underlying9 rfl rfl (hs.cellAt 3 rfl rfl)) ?_ | refine lw_val rfl (run_load Tryd.underlying9 rfl rfl (hs.cellAt 4 rfl rfl)) ?_ | refine lw_val rfl (run_load Tryd.underlying9 rfl rfl (hs.cellAt 5 rfl rfl)) ?_ | refine lw_val rfl (run_load Tryd.underlying9 rfl rfl (hs.cellAt 6 rfl rfl)) ?_ | refine lw_val rfl (run_load Tryd.underlying9 rfl rfl (hs.cellAt 7 rfl rfl)) ?_ | refine lw_val rfl (run_load Tryd.underlying9 rfl rfl (hs.cellAt 8 rfl rfl)) ?_ | refine lw_val rfl (run_load Tryd.underlying9 rfl rfl (hs.cellAt 9 rfl rfl)) ?_ | refine lw_val rfl (run_load Tryd.underlying9 rfl rfl (hs.cellAt 10 rfl rfl)) ?_ | refine lw_val rfl (run_load Tryd.underlying9 rfl rfl (hs.cellAt 11 rfl rfl)) ?_ | refine lw_val rfl (run_load Tryd.underlying9 rfl rfl (hs.cellAt 12 rfl rfl)) ?_ | refine lw_val rfl (run_load Tryd.underlying9 rfl rfl (hs.cellAt 13 rfl rfl)) ?_
              refine lw_on rfl rfl (rfl) ?_
              refine lw_val rfl (run_eqs rfl rfl) ?_
              first | refine lw_val rfl (run_pickT (v := .bool _) rfl (rfl) rfl) ?_
              first | refine lw_val rfl (run_assign (v := .bool _) rfl) ?_
              refine lw_nil ?_
              refine cw_ret ?_
              refine res1 (v := .bool _) rfl rfl ?_
              exact ⟨_, rfl, rfl, hs.nil⟩
            · intro h59
              have g59 := of_decide_eq_false h59
              have hmm : mkR name l e = (0, name, ((l.length : Nat) : Int), ((crcMore 0 l : Nat) : Int), ((e : Nat) : Int), ((partsN l.length e : Nat) : Int)) := by unfold mkR; rw [if_neg (by simp [h62]), if_neg (by omega), if_neg (by simp; omega)]; simp
              rw [hmm] at hm
              simp only [Prod.mk.injEq] at hm
              obtain ⟨hc, rfl, rfl, rfl, rfl, rfl⟩ := hm
              refine cw_skip ?_
              refine cw_seq ?_
              refine cw_seq ?_
              refine cw_region ?_
              first | refine lw_val rfl (run_move (v := .int .i64 _) rfl) ?_
              refine lw_val rfl (run_nei rfl rfl) ?_
              refine lw_nil ?_
              refine cw_iff rfl (rfl) ?_
              refine cw_skip ?_
              refine cw_seq ?_
              refine cw_seq ?_
              refine cw_drawS mixes hs ?_
              intro w tr hK
              replace hs := tr _ hs
              clear tr
              first | refine aw_take 0 rfl (by kernel_rfl) (by kernel_rfl) (by kernel_rfl) rfl (fun w hs => run_move (v := errV ad _) rfl) hK ?_ | refine aw_take 0 rfl (by kernel_rfl) (by kernel_rfl) (by kernel_rfl) rfl (fun w hs => run_move (v := .nilIface) rfl) hK ?_
              first | refine aw_take 1 rfl (by kernel_rfl) (by kernel_rfl) (by kernel_rfl) rfl (fun w hs => run_neerrn (ad := ad) rfl) hK ?_ | refine aw_take 1 rfl (by kernel_rfl) (by kernel_rfl) (by kernel_rfl) rfl (fun w hs => run_nenn rfl) hK ?_
              first | refine aw_take 2 rfl (by kernel_rfl) (by kernel_rfl) (by kernel_rfl) rfl (fun w hs => run_move (v := .bool _) rfl) hK ?_
              first | refine aw_takeOn 3 rfl (by kernel_rfl) (by kernel_rfl) (by kernel_rfl) rfl rfl rfl (not_f (decide_eq_true hc.symm)) (fun w hs => run_fieldAddr (o' := 0) Tryd.underlying38 rfl sz9 rfl rfl rfl) hK ?_ | refine aw_takeOn 3 rfl (by kernel_rfl) (by kernel_rfl) (by kernel_rfl) rfl rfl rfl (not_f (decide_eq_true hc.symm)) (fun w hs => run_fieldAddr Tryd.underlying38 rfl sz9 rfl rfl rfl) hK ?_
              first | refine aw_takeOn 4 rfl (by kernel_rfl) (by kernel_rfl) (by kernel_rfl) rfl rfl rfl (not_f (decide_eq_true hc.symm)) (fun w hs => run_load Tryd.underlying9 rfl rfl (hs.cellAt 0 rfl rfl)) hK ?_ | refine aw_takeOn 4 rfl (by kernel_rfl) (by kernel_rfl) (by kernel_rfl) rfl rfl rfl (not_f (decide_eq_true hc.symm)) (fun w hs => run_load Tryd.underlying9 rfl rfl (hs.cellAt 1 rfl rfl)) hK ?_ | refine aw_takeOn 4 rfl (by kernel_rfl) (by kernel_rfl) (by kernel_rfl) rfl rfl rfl (not_f (decide_eq_true hc.symm)) (fun w hs => run_load Tryd.underlying9 rfl rfl (hs.cellAt 2 rfl rfl)) hK ?_ | refine aw_takeOn 4 rfl (by kernel_rfl) (by kernel_rfl) (by kernel_rfl) rfl rfl rfl (not_f (decide_eq_true hc.symm)) (fun w hs => run_load Tryd.underlying9 rfl rfl (hs.cellAt 3 rfl rfl)) hK ?_ | refine aw_takeOn 4 rfl (by kernel_rfl) (by kernel_rfl) (by kernel_rfl) rfl rfl rfl (not_f (decide_eq_true hc.symm)) (fun w hs => run_load Tryd.underlying9 rfl rfl (hs.cellAt 4 rfl rfl)) hK ?_ | refine aw_takeOn 4 rfl (by kernel_rfl) (by kernel_rfl) (by kernel_rfl) rfl rfl rfl (not_f (decide_eq_true hc.symm)) (fun w hs => run_load Tryd.underlying9 rfl rfl (hs.cellAt 5 rfl rfl)) hK ?_ | refine aw_takeOn 4 rfl (by kernel_rfl) (by kernel_rfl) (by kernel_rfl) rfl rfl rfl (not_f (decide_eq_true hc.symm)) (fun w hs => run_load Tryd.underlying9 rfl rfl (hs.cellAt 6 rfl rfl)) hK ?_ | refine aw_takeOn 4 rfl (by kernel_rfl) (by kernel_rfl) (by kernel_rfl) rfl rfl rfl (not_f (decide_eq_true hc.symm)) (fun w hs => run_load Tryd.underlying9 rfl rfl (hs.cellAt 7 rfl rfl)) hK ?_ | refine aw_takeOn 4 rfl (by kernel_rfl) (by kernel_rfl) (by kernel_rfl) rfl rfl rfl (not_f (decide_eq_true hc.symm)) (fun w hs => run_load Tryd.underlying9 rfl rfl (hs.cellAt 8 rfl rfl)) hK ?_ | refine aw_takeOn 4 rfl (by kernel_rfl) (by kernel_rfl) (by kernel_rfl) rfl rfl rfl (not_f (decide_eq_true hc.symm)) (fun w hs => run_load Tryd.underlying9 rfl rfl (hs.cellAt 9 rfl rfl)) hK ?_ | refine aw_takeOn 4 rfl (by kernel_rfl) (by kernel_rfl) (by kernel_rfl) rfl rfl rfl (not_f (decide_eq_true hc.symm)) (fun w hs => run_load Tryd.underlying9 rfl rfl (hs.cellAt 10 rfl rfl)) hK ?_ | refine aw_takeOn 4 rfl (by kernel_rfl) (by kernel_rfl) (by kernel_rfl) rfl rfl rfl (not_f (decide_eq_true hc.symm)) (fun w hs => run_load Tryd.underlying9 rfl rfl (hs.cellAt 11 rfl rfl)) hK ?_ | refine aw_takeOn 4 rfl (by kernel_rfl) (by kernel_rfl) (by kernel_rfl) rfl rfl rfl (not_f (decide_eq_true hc.symm)) (fun w hs => run_load Tryd.underlying9 rfl rfl (hs.cellAt 12 rfl rfl)) hK ?_ | refine aw_takeOn 4 rfl (by kernel_rfl) (by kernel_rfl) (by kernel_rfl) rfl rfl rfl (not_f (decide_eq_true hc.symm)) (fun w hs => run_load Tryd.underlying9 rfl rfl (hs.cellAt 13 rfl rfl)) hK ?_
              first | refine aw_takeOn 5 rfl (by kernel_rfl) (by kernel_rfl) (by kernel_rfl) rfl rfl rfl (not_f (decide_eq_true hc.symm)) (fun w hs => run_move (v := .string _) rfl) hK ?_
              refine aw_takeOn 6 rfl (by kernel_rfl) (by kernel_rfl) (by kernel_rfl) rfl rfl rfl (not_f (decide_eq_true hc.symm)) (fun w hs => run_nes rfl rfl) hK ?_
              first | refine aw_take 7 rfl (by kernel_rfl) (by kernel_rfl) (by kernel_rfl) rfl (fun w hs => run_pickF (v := .bool _) rfl (not_f (decide_eq_true hc.symm)) rfl) hK ?_
              first | refine aw_take 8 rfl (by kernel_rfl) (by kernel_rfl) (by kernel_rfl) rfl (fun w hs => run_move (v := .bool _) rfl) hK ?_
              first | refine aw_takeOn 9 rfl (by kernel_rfl) (by kernel_rfl) (by kernel_rfl) rfl rfl rfl (not_f (decide_eq_true rfl)) (fun w hs => run_fieldAddr (o' := 1) Tryd.underlying38 rfl sz3 rfl rfl rfl) hK ?_ | refine aw_takeOn 9 rfl (by kernel_rfl) (by kernel_rfl) (by kernel_rfl) rfl rfl rfl (not_f (decide_eq_true rfl)) (fun w hs => run_fieldAddr Tryd.underlying38 rfl sz3 rfl rfl rfl) hK ?_
              first | refine aw_takeOn 10 rfl (by kernel_rfl) (by kernel_rfl) (by kernel_rfl) rfl rfl rfl (not_f (decide_eq_true rfl)) (fun w hs => run_load Tryd.underlying3 rfl rfl (hs.cellAt 0 rfl rfl)) hK ?_ | refine aw_takeOn 10 rfl (by kernel_rfl) (by kernel_rfl) (by kernel_rfl) rfl rfl rfl (not_f (decide_eq_true rfl)) (fun w hs => run_load Tryd.underlying3 rfl rfl (hs.cellAt 1 rfl rfl)) hK ?_ | refine aw_takeOn 10 rfl (by kernel_rfl) (by kernel_rfl) (by kernel_rfl) rfl rfl rfl (not_f (decide_eq_true rfl)) (fun w hs => run_load Tryd.underlying3 rfl rfl (hs.cellAt 2 rfl rfl)) hK ?_ | refine aw_takeOn 10 rfl (by kernel_rfl) (by kernel_rfl) (by kernel_rfl) rfl rfl rfl (not_f (decide_eq_true rfl)) (fun w hs => run_load Tryd.underlying3 rfl rfl (hs.cellAt 3 rfl rfl)) hK ?_ | refine aw_takeOn 10 rfl (by kernel_rfl) (by kernel_rfl) (by kernel_rfl) rfl rfl rfl (not_f (decide_eq_true rfl)) (fun w hs => run_load Tryd.underlying3 rfl rfl (hs.cellAt 4 rfl rfl)) hK ?_ | refine aw_takeOn 10 rfl (by kernel_rfl) (by kernel_rfl) (by kernel_rfl) rfl rfl rfl (not_f (decide_eq_true rfl)) (fun w hs => run_load Tryd.underlying3 rfl rfl (hs.cellAt 5 rfl rfl)) hK ?_ | refine aw_takeOn 10 rfl (by kernel_rfl) (by kernel_rfl) (by kernel_rfl) rfl rfl rfl (not_f (decide_eq_true rfl)) (fun w hs => run_load Tryd.underlying3 rfl rfl (hs.cellAt 6 rfl rfl)) hK ?_ | refine aw_takeOn 10 rfl (by kernel_rfl) (by kernel_rfl) (by kernel_rfl) rfl rfl rfl (not_f (decide_eq_true rfl)) (fun w hs => run_load Tryd.underlying3 rfl rfl (hs.cellAt 7 rfl rfl)) hK ?_ | refine aw_takeOn 10 rfl (by kernel_rfl) (by kernel_rfl) (by kernel_rfl) rfl rfl rfl (not_f (decide_eq_true rfl)) (fun w hs => run_load Tryd.underlying3 rfl rfl (hs.cellAt 8 rfl rfl)) hK ?_ | refine aw_takeOn 10 rfl (by kernel_rfl) (by kernel_rfl) (by kernel_rfl) rfl rfl rfl (not_f (decide_eq_true rfl)) (fun w hs => run_load Tryd.underlying3 rfl rfl (hs.cellAt 9 rfl rfl)) hK ?_ | refine aw_takeOn 10 rfl (by kernel_rfl) (by kernel_rfl) (by kernel_rfl) rfl rfl rfl (not_f (decide_eq_true rfl)) (fun w hs => run_load Tryd.underlying3 rfl rfl (hs.cellAt 10 rfl rfl)) hK ?_ | refine aw_takeOn 10 rfl (by kernel_rfl) (by kernel_rfl) (by kernel_rfl) rfl rfl rfl (not_f (decide_eq_true rfl)) (fun w hs => run_load Tryd.underlying3 rfl rfl (hs.cellAt 11 rfl rfl)) hK ?_ | refine aw_takeOn 10 rfl (by kernel_rfl) (by kernel_rfl) (by kernel_rfl) rfl rfl rfl (not_f (decide_eq_true rfl)) (fun w hs => run_load Tryd.underlying3 rfl rfl (hs.cellAt 12 rfl rfl)) hK ?_ | refine aw_takeOn 10 rfl (by kernel_rfl) (by kernel_rfl) (by kernel_rfl) rfl rfl rfl (not_f (decide_eq_true rfl)) (fun w hs => run_load Tryd.underlying3 rfl rfl (hs.cellAt 13 rfl rfl)) hK ?_
              first | refine aw_takeOn 11 rfl (by kernel_rfl) (by kernel_rfl) (by kernel_rfl) rfl rfl rfl (not_f (decide_eq_true rfl)) (fun w hs => run_move (v := .slice _ _ _) rfl) hK ?_
              refine aw_takeOn 12 rfl (by kernel_rfl) (by kernel_rfl) (by kernel_rfl) rfl rfl rfl (not_f (decide_eq_true rfl)) (fun w hs => run_lenS Tryd.underlying27 rfl) hK ?_
              refine aw_takeOn 13 rfl (by kernel_rfl) (by kernel_rfl) (by kernel_rfl) rfl rfl rfl (not_f (decide_eq_true rfl)) (fun w hs => run_nei rfl rfl) hK ?_
              first | refine aw_take 14 rfl (by kernel_rfl) (by kernel_rfl) (by kernel_rfl) rfl (fun w hs => run_pickF (v := .bool _) rfl (not_f (decide_eq_true rfl)) rfl) hK ?_
              first | refine aw_take 15 rfl (by kernel_rfl) (by kernel_rfl) (by kernel_rfl) rfl (fun w hs => run_move (v := .bool _) rfl) hK ?_
              first | refine aw_takeOn 16 rfl (by kernel_rfl) (by kernel_rfl) (by kernel_rfl) rfl rfl rfl (not_f (decide_eq_true rfl)) (fun w hs => run_fieldAddr (o' := 2) Tryd.underlying38 rfl sz36 rfl rfl rfl) hK ?_ | refine aw_takeOn 16 rfl (by kernel_rfl) (by kernel_rfl) (by kernel_rfl) rfl rfl rfl (not_f (decide_eq_true rfl)) (fun w hs => run_fieldAddr Tryd.underlying38 rfl sz36 rfl rfl rfl) hK ?_
              first | refine aw_takeOn 17 rfl (by kernel_rfl) (by kernel_rfl) (by kernel_rfl) rfl rfl rfl (not_f (decide_eq_true rfl)) (fun w hs => run_load Tryd.underlying36 rfl rfl (hs.cellAt 0 rfl rfl)) hK ?_ | refine aw_takeOn 17 rfl (by kernel_rfl) (by kernel_rfl) (by kernel_rfl) rfl rfl rfl (not_f (decide_eq_true rfl)) (fun w hs => run_load Tryd.underlying36 rfl rfl (hs.cellAt 1 rfl rfl)) hK ?_ | refine aw_takeOn 17 rfl (by kernel_rfl) (by kernel_rfl) (by kernel_rfl) rfl rfl rfl (not_f (decide_eq_true rfl)) (fun w hs => run_load Tryd.underlying36 rfl rfl (hs.cellAt 2 rfl rfl)) hK ?_ | refine aw_takeOn 17 rfl (by kernel_rfl) (by kernel_rfl) (by kernel_rfl) rfl rfl rfl (not_f (decide_eq_true rfl)) (fun w hs => run_load Tryd.underlying36 rfl rfl (hs.cellAt 3 rfl rfl)) hK ?_ | refine aw_takeOn 17 rfl (by kernel_rfl) (by kernel_rfl) (by kernel_rfl) rfl rfl rfl (not_f (decide_eq_true rfl)) (fun w hs => run_load Tryd.underlying36 rfl rfl (hs.cellAt 4 rfl rfl)) hK ?_ | refine aw_takeOn 17 rfl (by kernel_rfl) (by kernel_rfl) (by kernel_rfl) rfl rfl rfl (not_f (decide_eq_true rfl)) (fun w hs => run_load Tryd.underlying36 rfl rfl (hs.cellAt 5 rfl rfl)) hK ?_ | refine aw_takeOn 17 rfl (by kernel_rfl) (by kernel_rfl) (by kernel_rfl) rfl rfl rfl (not_f (decide_eq_true rfl)) (fun w hs => run_load Tryd.underlying36 rfl rfl (hs.cellAt 6 rfl rfl)) hK ?_ | refine aw_takeOn 17 rfl (by kernel_rfl) (by kernel_rfl) (by kernel_rfl) rfl rfl rfl (not_f (decide_eq_true rfl)) (fun w hs => run_load Tryd.underlying36 rfl rfl (hs.cellAt 7 rfl rfl)) hK ?_ | refine aw_takeOn 17 rfl (by kernel_rfl) (by kernel_rfl) (by kernel_rfl) rfl rfl rfl (not_f (decide_eq_true rfl)) (fun w hs => run_load Tryd.underlying36 rfl rfl (hs.cellAt 8 rfl rfl)) hK ?_ | refine aw_takeOn 17 rfl (by kernel_rfl) (by kernel_rfl) (by kernel_rfl) rfl rfl rfl (not_f (decide_eq_true rfl)) (fun w hs => run_load Tryd.underlying36 rfl rfl (hs.cellAt 9 rfl rfl)) hK ?_ | refine aw_takeOn 17 rfl (by kernel_rfl) (by kernel_rfl) (by kernel_rfl) rfl rfl rfl (not_f (decide_eq_true rfl)) (fun w hs => run_load Tryd.underlying36 rfl rfl (hs.cellAt 10 rfl rfl)) hK ?_ | refine aw_takeOn 17 rfl (by kernel_rfl) (by kernel_rfl) (by kernel_rfl) rfl rfl rfl (not_f (decide_eq_true rfl)) (fun w hs => run_load Tryd.underlying36 rfl rfl (hs.cellAt 11 rfl rfl)) hK ?_ | refine aw_takeOn 17 rfl (by kernel_rfl) (by kernel_rfl) (by kernel_rfl) rfl rfl rfl (not_f (decide_eq_true rfl)) (fun w hs => run_load Tryd.underlying36 rfl rfl (hs.cellAt 12 rfl rfl)) hK ?_ | refine aw_takeOn 17 rfl (by kernel_rfl) (by kernel_rfl) (by kernel_rfl) rfl rfl rfl (not_f (decide_eq_true rfl)) (fun w hs => run_load Tryd.underlying36 rfl rfl (hs.cellAt 13 rfl rfl)) hK ?_
              first | refine aw_takeOn 18 rfl (by kernel_rfl) (by kernel_rfl) (by kernel_rfl) rfl rfl rfl (not_f (decide_eq_true rfl)) (fun w hs => run_move (v := .slice _ _ _) rfl) hK ?_
              refine aw_ready [19] (by kernel_rfl) (by simp) ?_
              refine ⟨⟨_, rfl, ?_⟩, trivial⟩
              refine lw_on rfl rfl (not_f (decide_eq_true rfl)) ?_
              refine lw_call rfl en31 (hs.callsE (refSum_any ((hb.rd _).seq hs) (by omega))) ?_
              clear hs
              rintro _ w ⟨rfl, hs⟩
              clear hK
              have hK := hs
              refine lw_nil ⟨hK, ?_⟩
              refine aw_takeOn 20 rfl (by kernel_rfl) (by kernel_rfl) (by kernel_rfl) rfl rfl rfl (not_f (decide_eq_true rfl)) (fun w hs => run_nei rfl rfl) hK ?_
              first | refine aw_take 21 rfl (by kernel_rfl) (by kernel_rfl) (by kernel_rfl) rfl (fun w hs => run_pickF (v := .bool _) rfl (not_f (decide_eq_true rfl)) rfl) hK ?_
              first | refine aw_take 22 rfl (by kernel_rfl) (by kernel_rfl) (by kernel_rfl) rfl (fun w hs => run_move (v := .bool _) rfl) hK ?_
              first | refine aw_takeOn 23 rfl (by kernel_rfl) (by kernel_rfl) (by kernel_rfl) rfl rfl rfl (not_f (decide_eq_true rfl)) (fun w hs => run_fieldAddr (o' := 3) Tryd.underlying38 rfl sz3 rfl rfl rfl) hK ?_ | refine aw_takeOn 23 rfl (by kernel_rfl) (by kernel_rfl) (by kernel_rfl) rfl rfl rfl (not_f (decide_eq_true rfl)) (fun w hs => run_fieldAddr Tryd.underlying38 rfl sz3 rfl rfl rfl) hK ?_
              first | refine aw_takeOn 24 rfl (by kernel_rfl) (by kernel_rfl) (by kernel_rfl) rfl rfl rfl (not_f (decide_eq_true rfl)) (fun w hs => run_load Tryd.underlying3 rfl rfl (hs.cellAt 0 rfl rfl)) hK ?_ | refine aw_takeOn 24 rfl (by kernel_rfl) (by kernel_rfl) (by kernel_rfl) rfl rfl rfl (not_f (decide_eq_true rfl)) (fun w hs => run_load Tryd.underlying3 rfl rfl (hs.cellAt 1 rfl rfl)) hK ?_ | refine aw_takeOn 24 rfl (by kernel_rfl) (by kernel_rfl) (by kernel_rfl) rfl rfl rfl (not_f (decide_eq_true rfl)) (fun w hs => run_load Tryd.underlying3 rfl rfl (hs.cellAt 2 rfl rfl)) hK ?_ | refine aw_takeOn 24 rfl (by kernel_rfl) (by kernel_rfl) (by kernel_rfl) rfl rfl rfl (not_f (decide_eq_true rfl)) (fun w hs => run_load Tryd.underlying3 rfl rfl (hs.cellAt 3 rfl rfl)) hK ?_ | refine aw_takeOn 24 rfl (by kernel_rfl) (by kernel_rfl) (by kernel_rfl) rfl rfl rfl (not_f (decide_eq_true rfl)) (fun w hs => run_load Tryd.underlying3 rfl rfl (hs.cellAt 4 rfl rfl)) hK ?_ | refine aw_takeOn 24 rfl (by kernel_rfl) (by kernel_rfl) (by kernel_rfl) rfl rfl rfl (not_f (decide_eq_true rfl)) (fun w hs => run_load Tryd.underlying3 rfl rfl (hs.cellAt 5 rfl rfl)) hK ?_ | refine aw_takeOn 24 rfl (by kernel_rfl) (by kernel_rfl) (by kernel_rfl) rfl rfl rfl (not_f (decide_eq_true rfl)) (fun w hs => run_load Tryd.underlying3 rfl rfl (hs.cellAt 6 rfl rfl)) hK ?_ | refine aw_takeOn 24 rfl (by kernel_rfl) (by kernel_rfl) (by kernel_rfl) rfl rfl rfl (not_f (decide_eq_true rfl)) (fun w hs => run_load Tryd.underlying3 rfl rfl (hs.cellAt 7 rfl rfl)) hK ?_ | refine aw_takeOn 24 rfl (by kernel_rfl) (by kernel_rfl) (by kernel_rfl) rfl rfl rfl (not_f (decide_eq_true rfl)) (fun w hs => run_load Tryd.underlying3 rfl rfl (hs.cellAt 8 rfl rfl)) hK ?_ | refine aw_takeOn 24 rfl (by kernel_rfl) (by kernel_rfl) (by kernel_rfl) rfl rfl rfl (not_f (decide_eq_true rfl)) (fun w hs => run_load Tryd.underlying3 rfl rfl (hs.cellAt 9 rfl rfl)) hK ?_ | refine aw_takeOn 24 rfl (by kernel_rfl) (by kernel_rfl) (by kernel_rfl) rfl rfl rfl (not_f (decide_eq_true rfl)) (fun w hs => run_load Tryd.underlying3 rfl rfl (hs.cellAt 10 rfl rfl)) hK ?_ | refine aw_takeOn 24 rfl (by kernel_rfl) (by kernel_rfl) (by kernel_rfl) rfl rfl rfl (not_f (decide_eq_true rfl)) (fun w hs => run_load Tryd.underlying3 rfl rfl (hs.cellAt 11 rfl rfl)) hK ?_ | refine aw_takeOn 24 rfl (by kernel_rfl) (by kernel_rfl) (by kernel_rfl) rfl rfl rfl (not_f (decide_eq_true rfl)) (fun w hs => run_load Tryd.underlying3 rfl rfl (hs.cellAt 12 rfl rfl)) hK ?_ | refine aw_takeOn 24 rfl (by kernel_rfl) (by kernel_rfl) (by kernel_rfl) rfl rfl rfl (not_f (decide_eq_true rfl)) (fun w hs => run_load Tryd.underlying3 rfl rfl (hs.cellAt 13 rfl rfl)) hK ?_
              first | refine aw_takeOn 25 rfl (by kernel_rfl) (by kernel_rfl) (by kernel_rfl) rfl rfl rfl (not_f (decide_eq_true rfl)) (fun w hs => run_move (v := .int .i64 _) rfl) hK ?_
              refine aw_takeOn 26 rfl (by kernel_rfl) (by kernel_rfl) (by kernel_rfl) rfl rfl rfl (not_f (decide_eq_true rfl)) (fun w hs => run_nei rfl rfl) hK ?_
              first | refine aw_take 27 rfl (by kernel_rfl) (by kernel_rfl) (by kernel_rfl) rfl (fun w hs => run_pickF (v := .bool _) rfl (not_f (decide_eq_true rfl)) rfl) hK ?_
              first | refine aw_take 28 rfl (by kernel_rfl) (by kernel_rfl) (by kernel_rfl) rfl (fun w hs => run_move (v := .bool _) rfl) hK ?_
              first | refine aw_takeOn 29 rfl (by kernel_rfl) (by kernel_rfl) (by kernel_rfl) rfl rfl rfl (not_f (decide_eq_true rfl)) (fun w hs => run_fieldAddr (o' := 4) Tryd.underlying38 rfl sz3 rfl rfl rfl) hK ?_ | refine aw_takeOn 29 rfl (by kernel_rfl) (by kernel_rfl) (by kernel_rfl) rfl rfl rfl (not_f (decide_eq_true rfl)) (fun w hs => run_fieldAddr Tryd.underlying38 rfl sz3 rfl rfl rfl) hK ?_
              first | refine aw_takeOn 30 rfl (by kernel_rfl) (by kernel_rfl) (by kernel_rfl) rfl rfl rfl (not_f (decide_eq_true rfl)) (fun w hs => run_load Tryd.underlying3 rfl rfl (hs.cellAt 0 rfl rfl)) hK ?_ | refine aw_takeOn 30 rfl (by kernel_rfl) (by kernel_rfl) (by kernel_rfl) rfl rfl rfl (not_f (decide_eq_true rfl)) (fun w hs => run_load Tryd.underlying3 rfl rfl (hs.cellAt 1 rfl rfl)) hK ?_ | refine aw_takeOn 30 rfl (by kernel_rfl) (by kernel_rfl) (by kernel_rfl) rfl rfl rfl (not_f (decide_eq_true rfl)) (fun w hs => run_load Tryd.underlying3 rfl rfl (hs.cellAt 2 rfl rfl)) hK ?_ | refine aw_takeOn 30 rfl (by kernel_rfl) (by kernel_rfl) (by kernel_rfl) rfl rfl rfl (not_f (decide_eq_true rfl)) (fun w hs => run_load Tryd.underlying3 rfl rfl (hs.cellAt 3 rfl rfl)) hK ?_ | refine aw_takeOn 30 rfl (by kernel_rfl) (by kernel_rfl) (by kernel_rfl) rfl rfl rfl (not_f (decide_eq_true rfl)) (fun w hs => run_load Tryd.underlying3 rfl rfl (hs.cellAt 4 rfl rfl)) hK ?_ | refine aw_takeOn 30 rfl (by kernel_rfl) (by kernel_rfl) (by kernel_rfl) rfl rfl rfl (not_f (decide_eq_true rfl)) (fun w hs => run_load Tryd.underlying3 rfl rfl (hs.cellAt 5 rfl rfl)) hK ?_ | refine aw_takeOn 30 rfl (by kernel_rfl) (by kernel_rfl) (by kernel_rfl) rfl rfl rfl (not_f (decide_eq_true rfl)) (fun w hs => run_load Tryd.underlying3 rfl rfl (hs.cellAt 6 rfl rfl)) hK ?_ | refine aw_takeOn 30 rfl (by kernel_rfl) (by kernel_rfl) (by kernel_rfl) rfl rfl rfl (not_f (decide_eq_true rfl)) (fun w hs => run_load Tryd.underlying3 rfl rfl (hs.cellAt 7 rfl rfl)) hK ?_ | refine aw_takeOn 30 rfl (by kernel_rfl) (by kernel_rfl) (by kernel_rfl) rfl rfl rfl (not_f (decide_eq_true rfl)) (fun w hs => run_load Tryd.underlying3 rfl rfl (hs.cellAt 8 rfl rfl)) hK ?_ | refine aw_takeOn 30 rfl (by kernel_rfl) (by kernel_rfl) (by kernel_rfl) rfl rfl rfl (not_f (decide_eq_true rfl)) (fun w hs => run_load Tryd.underlying3 rfl rfl (hs.cellAt 9 rfl rfl)) hK ?_ | refine aw_takeOn 30 rfl (by kernel_rfl) (by kernel_rfl) (by kernel_rfl) rfl rfl rfl (not_f (decide_eq_true rfl)) (fun w hs => run_load Tryd.underlying3 rfl rfl (hs.cellAt 10 rfl rfl)) hK ?_ | refine aw_takeOn 30 rfl (by kernel_rfl) (by kernel_rfl) (by kernel_rfl) rfl rfl rfl (not_f (decide_eq_true rfl)) (fun w hs => run_load Tryd.underlying3 rfl rfl (hs.cellAt 11 rfl rfl)) hK ?_ | refine aw_takeOn 30 rfl (by kernel_rfl) (by kernel_rfl) (by kernel_rfl) rfl rfl rfl (not_f (decide_eq_true rfl)) (fun w hs => run_load Tryd.underlying3 rfl rfl (hs.cellAt 12 rfl rfl)) hK ?_ | refine aw_takeOn 30 rfl (by kernel_rfl) (by kernel_rfl) (by kernel_rfl) rfl rfl rfl (not_f (decide_eq_true rfl)) (fun w hs => run_load Tryd.underlying3 rfl rfl (hs.cellAt 13 rfl rfl)) hK ?_
              first | refine aw_takeOn 31 rfl (by kernel_rfl) (by kernel_rfl) (by kernel_rfl) rfl rfl rfl (not_f (decide_eq_true rfl)) (fun w hs => run_move (v := .int .i64 _) rfl) hK ?_
              refine aw_takeOn 32 rfl (by kernel_rfl) (by kernel_rfl) (by kernel_rfl) rfl rfl rfl (not_f (decide_eq_true rfl)) (fun w hs => run_nei rfl rfl) hK ?_
              first | refine aw_take 33 rfl (by kernel_rfl) (by kernel_rfl) (by kernel_rfl) rfl (fun w hs => run_pickF (v := .bool _) rfl (not_f (decide_eq_true rfl)) rfl) hK ?_
              refine aw_done (by kernel_rfl) ?_
              clear hK
              refine cw_iff rfl (not_f (decide_eq_true rfl)) ?_
              refine cw_skip ?_
              refine cw_seq ?_
              refine cw_region ?_
              first | refine lw_val rfl (run_assign (v := .int .i64 _) rfl) ?_
              refine lw_nil ?_
              refine cw_seq ?_
              refine cw_seq ?_
              refine cw_region ?_
              first | refine lw_val rfl (run_assign (v := .int .i64 _) rfl) ?_
              refine lw_nil ?_
              have hpe := partsN_end (size := l.length) (e := e) (by omega)
              have hp0 : partsN l.length e ≤ 256 := by omega
              refine cw_block ?_
              refine cw_loop (X := Nat) [8, 14, 15, 16, 17, 18, 120, 121, 122, 123, 124, 125, 126, 127, 128, 129, 130, 131, 132, 133, 134, 135, 136, 137, 138, 139, 140, 141, 142, 143, 144, 145, 146, 147, 148, 149] (fun k => [(14, .int .i64 ((min (k * e) l.length : Nat) : Int)), (15, .int .i64 (k : Nat))]) (fun k w => k ≤ partsN l.length e ∧ Mem g w [cells b10 (planC name l.length ((crcMore 0 l : Nat) : Int) e (partsN l.length e : Nat)) 38]) (fun k => partsN l.length e - k) (0) ?_ ?_ ?_
              · exact ⟨by simp; rfl, rfl, trivial⟩
              · exact ⟨Nat.zero_le _, hs⟩
              clear hs
              rintro x ξ w hI
              obtain ⟨hk, hs⟩ := hI
              refine cw_seq ?_
              refine cw_seq ?_
              refine cw_region ?_
              first | refine lw_val rfl (run_move (v := .int .i64 _) rfl) ?_
              first | refine lw_val rfl (run_move (v := .int .i64 _) rfl) ?_
              refine lw_val rfl (run_lss rfl rfl) ?_
              refine lw_nil ?_
              refine cw_if rfl ?_ ?_
              · intro h122
                have g122 := of_decide_eq_true h122
                have hke := partsN_lt (size := l.length) (e := e) (by omega) (show x < partsN l.length e by omega)
                have hkm : (x + 1) * e = x * e + e := Nat.succ_mul _ _
                refine cw_skip ?_
                refine cw_seq ?_
                refine cw_block ?_
                refine cw_seq ?_
                refine cw_region ?_
                first | refine lw_val rfl (run_loadRow hs 0 rfl Tryd.underlying38 sz38 rfl) ?_ | refine lw_val rfl (run_loadRow hs 1 rfl Tryd.underlying38 sz38 rfl) ?_ | refine lw_val rfl (run_loadRow hs 2 rfl Tryd.underlying38 sz38 rfl) ?_ | refine lw_val rfl (run_loadRow hs 3 rfl Tryd.underlying38 sz38 rfl) ?_ | refine lw_val rfl (run_loadRow hs 4 rfl Tryd.underlying38 sz38 rfl) ?_ | refine lw_val rfl (run_loadRow hs 5 rfl Tryd.underlying38 sz38 rfl) ?_ | refine lw_val rfl (run_loadRow hs 6 rfl Tryd.underlying38 sz38 rfl) ?_ | refine lw_val rfl (run_loadRow hs 7 rfl Tryd.underlying38 sz38 rfl) ?_ | refine lw_val rfl (run_loadRow hs 8 rfl Tryd.underlying38 sz38 rfl) ?_ | refine lw_val rfl (run_loadRow hs 9 rfl Tryd.underlying38 sz38 rfl) ?_ | refine lw_val rfl (run_loadRow hs 10 rfl Tryd.underlying38 sz38 rfl) ?_ | refine lw_val rfl (run_loadRow hs 11 rfl Tryd.underlying38 sz38 rfl) ?_ | refine lw_val rfl (run_loadRow hs 12 rfl Tryd.underlying38 sz38 rfl) ?_ | refine lw_val rfl (run_loadRow hs 13 rfl Tryd.underlying38 sz38 rfl) ?_
                first | refine lw_val rfl (run_move (v := .int .i64 _) rfl) ?_
                refine lw_call rfl en32 (range_sl hs (by omega) (by omega) (by omega) rfl hp0) ?_
                clear hs
                rintro _ w ⟨f, t, hft, rfl, hs⟩
                obtain ⟨rfl, rfl⟩ := hft (by omega) (by omega)
                first | refine lw_val rfl (run_move (v := .tuple _) rfl) ?_
                first | refine lw_val rfl (run_extract (v := .int .i64 _) rfl rfl) ?_
                first | refine lw_val rfl (run_extract (v := .int .i64 _) rfl rfl) ?_
                first | refine lw_val rfl (run_extract (v := .bool _) rfl rfl) ?_
                first | refine lw_val rfl (run_assign (v := .int .i64 _) rfl) ?_
                first | refine lw_val rfl (run_assign (v := .int .i64 _) rfl) ?_
                first | refine lw_val rfl (run_assign (v := .bool _) rfl) ?_
                refine lw_nil ?_
                refine cw_seq ?_
                refine cw_seq ?_
                refine cw_region ?_
                first | refine lw_val rfl (run_move (v := .bool _) rfl) ?_
                refine lw_val rfl (run_not rfl) ?_
                first | refine lw_val rfl (run_move (v := .bool _) rfl) ?_
                refine lw_on rfl rfl (not_f (decide_eq_true ⟨by omega, by omega⟩)) ?_
                first | refine lw_val rfl (run_move (v := .int .i64 _) rfl) ?_
                refine lw_on rfl rfl (not_f (decide_eq_true ⟨by omega, by omega⟩)) ?_
                first | refine lw_val rfl (run_move (v := .int .i64 _) rfl) ?_
                refine lw_on rfl rfl (not_f (decide_eq_true ⟨by omega, by omega⟩)) ?_
                refine lw_val rfl (run_nei rfl rfl) ?_
                first | refine lw_val rfl (run_pickF (v := .bool _) rfl (not_f (decide_eq_true ⟨by omega, by omega⟩)) rfl) ?_
                first | refine lw_val rfl (run_move (v := .bool _) rfl) ?_
                refine lw_on rfl rfl (not_f (decide_eq_true (by simp; omega))) ?_
                first | refine lw_val rfl (run_move (v := .int .i64 _) rfl) ?_
                refine lw_on rfl rfl (not_f (decide_eq_true (by simp; omega))) ?_
                first | refine lw_val rfl (run_move (v := .slice _ _ _) rfl) ?_
                refine lw_on rfl rfl (not_f (decide_eq_true (by simp; omega))) ?_
                refine lw_val rfl (run_lenS Tryd.underlying27 rfl) ?_
                refine lw_on rfl rfl (not_f (decide_eq_true (by simp; omega))) ?_
                first | refine lw_val rfl (run_move (v := .int .i64 _) rfl) ?_
                refine lw_on rfl rfl (not_f (decide_eq_true (by simp; omega))) ?_
                first | refine lw_val rfl (run_move (v := .int .i64 _) rfl) ?_
                refine lw_on rfl rfl (not_f (decide_eq_true (by simp; omega))) ?_
                refine lw_val rfl (run_add64 rfl rfl rfl (inI (by omega) (by omega))) ?_
                refine lw_on rfl rfl (not_f (decide_eq_true (by simp; omega))) ?_
                refine lw_val rfl (run_min rfl rfl) ?_
                refine lw_on rfl rfl (not_f (decide_eq_true (by simp; omega))) ?_
                refine lw_val rfl (run_nei rfl rfl) ?_
                first | refine lw_val rfl (run_pickF (v := .bool _) rfl (not_f (decide_eq_true (by simp; omega))) rfl) ?_
                refine lw_nil ?_
                refine cw_iff rfl (not_f (decide_eq_true (by simp; omega))) ?_
                refine cw_skip ?_
                refine cw_region ?_
                first | refine lw_val rfl (run_move (v := .int .i64 _) rfl) ?_
                first | refine lw_val rfl (run_assign (v := .int .i64 _) rfl) ?_
                refine lw_nil ?_
                refine cw_region ?_
                first | refine lw_val rfl (run_move (v := .int .i64 _) rfl) ?_
                refine lw_val rfl (run_add64 rfl rfl rfl (inI (by omega) (by omega))) ?_
                first | refine lw_val rfl (run_assign (v := .int .i64 _) rfl) ?_
                refine lw_nil ?_
                exact ⟨x + 1, by omega, ⟨by omega, hs⟩, ⟨rfl, rfl, trivial⟩, by repeat (first | exact Out.mix _ _ _ | refine Out.updo rfl ?_ | refine Out.upd rfl ?_)⟩
              · intro h122
                have g122 := of_decide_eq_false h122
                obtain rfl : x = partsN l.length e := by omega
                refine cw_exit rfl ?_
                refine cw_seq ?_
                refine cw_region ?_
                first | refine lw_val rfl (run_loadRow hs 0 rfl Tryd.underlying38 sz38 rfl) ?_ | refine lw_val rfl (run_loadRow hs 1 rfl Tryd.underlying38 sz38 rfl) ?_ | refine lw_val rfl (run_loadRow hs 2 rfl Tryd.underlying38 sz38 rfl) ?_ | refine lw_val rfl (run_loadRow hs 3 rfl Tryd.underlying38 sz38 rfl) ?_ | refine lw_val rfl (run_loadRow hs 4 rfl Tryd.underlying38 sz38 rfl) ?_ | refine lw_val rfl (run_loadRow hs 5 rfl Tryd.underlying38 sz38 rfl) ?_ | refine lw_val rfl (run_loadRow hs 6 rfl Tryd.underlying38 sz38 rfl) ?_ | refine lw_val rfl (run_loadRow hs 7 rfl Tryd.underlying38 sz38 rfl) ?_ | refine lw_val rfl (run_loadRow hs 8 rfl Tryd.underlying38 sz38 rfl) ?_ | refine lw_val rfl (run_loadRow hs 9 rfl Tryd.underlying38 sz38 rfl) ?_ | refine lw_val rfl (run_loadRow hs 10 rfl Tryd.underlying38 sz38 rfl) ?_ | refine lw_val rfl (run_loadRow hs 11 rfl Tryd.underlying38 sz38 rfl) ?_ | refine lw_val rfl (run_loadRow hs 12 rfl Tryd.underlying38 sz38 rfl) ?_ | refine lw_val rfl (run_loadRow hs 13 rfl Tryd.underlying38 sz38 rfl) ?_
                refine lw_call rfl en32 (range_sl hs (by omega) (by omega) (by omega) rfl hp0) ?_
                clear hs
                rintro _ w ⟨f1, t1, _, rfl, hs⟩
                first | refine lw_val rfl (run_move (v := .tuple _) rfl) ?_
                first | refine lw_val rfl (run_extract (v := .int .i64 _) rfl rfl) ?_
                first | refine lw_val rfl (run_extract (v := .int .i64 _) rfl rfl) ?_
                first | refine lw_val rfl (run_extract (v := .bool _) rfl rfl) ?_
                first | refine lw_val rfl (run_assign (v := .int .i64 _) rfl) ?_
                first | refine lw_val rfl (run_assign (v := .int .i64 _) rfl) ?_
                first | refine lw_val rfl (run_assign (v := .bool _) rfl) ?_
                refine lw_nil ?_
                refine cw_seq ?_
                refine cw_region ?_
                first | refine lw_val rfl (run_loadRow hs 0 rfl Tryd.underlying38 sz38 rfl) ?_ | refine lw_val rfl (run_loadRow hs 1 rfl Tryd.underlying38 sz38 rfl) ?_ | refine lw_val rfl (run_loadRow hs 2 rfl Tryd.underlying38 sz38 rfl) ?_ | refine lw_val rfl (run_loadRow hs 3 rfl Tryd.underlying38 sz38 rfl) ?_ | refine lw_val rfl (run_loadRow hs 4 rfl Tryd.underlying38 sz38 rfl) ?_ | refine lw_val rfl (run_loadRow hs 5 rfl Tryd.underlying38 sz38 rfl) ?_ | refine lw_val rfl (run_loadRow hs 6 rfl Tryd.underlying38 sz38 rfl) ?_ | refine lw_val rfl (run_loadRow hs 7 rfl Tryd.underlying38 sz38 rfl) ?_ | refine lw_val rfl (run_loadRow hs 8 rfl Tryd.underlying38 sz38 rfl) ?_ | refine lw_val rfl (run_loadRow hs 9 rfl Tryd.underlying38 sz38 rfl) ?_ | refine lw_val rfl (run_loadRow hs 10 rfl Tryd.underlying38 sz38 rfl) ?_ | refine lw_val rfl (run_loadRow hs 11 rfl Tryd.underlying38 sz38 rfl) ?_ | refine lw_val rfl (run_loadRow hs 12 rfl Tryd.underlying38 sz38 rfl) ?_ | refine lw_val rfl (run_loadRow hs 13 rfl Tryd.underlying38 sz38 rfl) ?_
                first | refine lw_val rfl (run_move (v := .int .i64 _) rfl) ?_
                refine lw_call rfl en32 (range_sl hs (by omega) (by omega) (by omega) rfl hp0) ?_
                clear hs
                rintro _ w ⟨f2, t2, _, rfl, hs⟩
                first | refine lw_val rfl (run_move (v := .tuple _) rfl) ?_
                first | refine lw_val rfl (run_extract (v := .int .i64 _) rfl rfl) ?_
                first | refine lw_val rfl (run_extract (v := .int .i64 _) rfl rfl) ?_
                first | refine lw_val rfl (run_extract (v := .bool _) rfl rfl) ?_
                first | refine lw_val rfl (run_assign (v := .int .i64 _) rfl) ?_
                first | refine lw_val rfl (run_assign (v := .int .i64 _) rfl) ?_
                first | refine lw_val rfl (run_assign (v := .bool _) rfl) ?_
                refine lw_nil ?_
                refine cw_seq ?_
                refine cw_region ?_
                first | refine lw_val rfl (run_loadRow hs 0 rfl Tryd.underlying38 sz38 rfl) ?_ | refine lw_val rfl (run_loadRow hs 1 rfl Tryd.underlying38 sz38 rfl) ?_ | refine lw_val rfl (run_loadRow hs 2 rfl Tryd.underlying38 sz38 rfl) ?_ | refine lw_val rfl (run_loadRow hs 3 rfl Tryd.underlying38 sz38 rfl) ?_ | refine lw_val rfl (run_loadRow hs 4 rfl Tryd.underlying38 sz38 rfl) ?_ | refine lw_val rfl (run_loadRow hs 5 rfl Tryd.underlying38 sz38 rfl) ?_ | refine lw_val rfl (run_loadRow hs 6 rfl Tryd.underlying38 sz38 rfl) ?_ | refine lw_val rfl (run_loadRow hs 7 rfl Tryd.underlying38 sz38 rfl) ?_ | refine lw_val rfl (run_loadRow hs 8 rfl Tryd.underlying38 sz38 rfl) ?_ | refine lw_val rfl (run_loadRow hs 9 rfl Tryd.underlying38 sz38 rfl) ?_ | refine lw_val rfl (run_loadRow hs 10 rfl Tryd.underlying38 sz38 rfl) ?_ | refine lw_val rfl (run_loadRow hs 11 rfl Tryd.underlying38 sz38 rfl) ?_ | refine lw_val rfl (run_loadRow hs 12 rfl Tryd.underlying38 sz38 rfl) ?_ | refine lw_val rfl (run_loadRow hs 13 rfl Tryd.underlying38 sz38 rfl) ?_
                first | refine lw_val rfl (run_move (v := .int .i64 _) rfl) ?_
                refine lw_call rfl en32 (range_sl hs (by omega) (by omega) (by omega) rfl hp0) ?_
                clear hs
                rintro _ w ⟨f3, t3, _, rfl, hs⟩
                first | refine lw_val rfl (run_move (v := .tuple _) rfl) ?_
                first | refine lw_val rfl (run_extract (v := .int .i64 _) rfl rfl) ?_
                first | refine lw_val rfl (run_extract (v := .int .i64 _) rfl rfl) ?_
                first | refine lw_val rfl (run_extract (v := .bool _) rfl rfl) ?_
                first | refine lw_val rfl (run_assign (v := .int .i64 _) rfl) ?_
                first | refine lw_val rfl (run_assign (v := .int .i64 _) rfl) ?_
                first | refine lw_val rfl (run_assign (v := .bool _) rfl) ?_
                refine lw_nil ?_
                refine cw_seq ?_
                refine cw_region ?_
                first | refine lw_val rfl (run_move (v := .int .i64 _) rfl) ?_
                first | refine lw_val rfl (run_move (v := .slice _ _ _) rfl) ?_
                refine lw_val rfl (run_lenS Tryd.underlying27 rfl) ?_
                refine lw_val rfl (run_eqi rfl rfl) ?_
                first | refine lw_val rfl (run_move (v := .bool _) rfl) ?_
                refine lw_on rfl rfl (decide_eq_true (by omega)) ?_
                first | refine lw_val rfl (run_move (v := .bool _) rfl) ?_
                refine lw_on rfl rfl (decide_eq_true (by omega)) ?_
                refine lw_val rfl (run_not rfl) ?_
                first | refine lw_val rfl (run_pickT (v := .bool _) rfl (decide_eq_true (by omega)) rfl) ?_
                first | refine lw_val rfl (run_move (v := .bool _) rfl) ?_
                refine lw_on rfl rfl (not_t (decide_eq_false (by omega))) ?_
                first | refine lw_val rfl (run_move (v := .bool _) rfl) ?_
                refine lw_on rfl rfl (not_t (decide_eq_false (by omega))) ?_
                refine lw_val rfl (run_not rfl) ?_
                first | refine lw_val rfl (run_pickT (v := .bool _) rfl (not_t (decide_eq_false (by omega))) rfl) ?_
                first | refine lw_val rfl (run_move (v := .bool _) rfl) ?_
                refine lw_on rfl rfl (not_t (decide_eq_false (by omega))) ?_
                first | refine lw_val rfl (run_move (v := .bool _) rfl) ?_
                refine lw_on rfl rfl (not_t (decide_eq_false (by omega))) ?_
                first | refine lw_val rfl (run_move (v := .int .i64 _) rfl) ?_
                refine lw_on rfl rfl (not_t (decide_eq_false (by omega))) ?_
                refine lw_val rfl (run_geq rfl rfl) ?_
                refine lw_on rfl rfl (not_t (decide_eq_false (by omega))) ?_
                first | refine lw_val rfl (run_move (v := .bool _) rfl) ?_
                refine lw_split (t := _) (d := 186) rfl ?_ ?_
                · intro h185
                  have g185 := of_decide_eq_true h185
                  refine lw_on rfl rfl h185 ?_
                  first | refine lw_val rfl (run_move (v := .int .i64 _) rfl) ?_
                  refine lw_on rfl rfl h185 ?_
                  first | refine lw_val rfl (run_move (v := .int .i64 _) rfl) ?_
                  refine lw_on rfl rfl h185 ?_
                  refine lw_val rfl (run_lss rfl rfl) ?_
                  refine lw_on rfl rfl (not_t (decide_eq_false (by omega))) ?_
                  first | refine lw_val rfl (run_pickT (v := .bool _) rfl h185 rfl) ?_
                  refine lw_on rfl rfl (not_t (decide_eq_false (by omega))) ?_
                  refine lw_val rfl (run_eqb Tryd.underlying4 rfl rfl) ?_
                  first | refine lw_val rfl (run_pickT (v := .bool _) rfl (not_t (decide_eq_false (by omega))) rfl) ?_
                  first | refine lw_val rfl (run_assign (v := .bool _) rfl) ?_
                  refine lw_nil ?_
                  refine cw_ret ?_
                  refine res1 (v := .bool _) rfl rfl ?_
                  exact ⟨_, rfl, ret_b (by simp; omega), hs.nil⟩
                · intro h185
                  have g185 := of_decide_eq_false h185
                  refine lw_off rfl rfl rfl h185 ?_
                  refine lw_off rfl rfl rfl h185 ?_
                  refine lw_off rfl rfl rfl h185 ?_
                  refine lw_on rfl rfl (not_t (decide_eq_false (by omega))) ?_
                  first | refine lw_val rfl (run_pickF (v := .bool _) rfl h185 rfl) ?_
                  refine lw_on rfl rfl (not_t (decide_eq_false (by omega))) ?_
                  refine lw_val rfl (run_eqb Tryd.underlying4 rfl rfl) ?_
                  first | refine lw_val rfl (run_pickT (v := .bool _) rfl (not_t (decide_eq_false (by omega))) rfl) ?_
                  first | refine lw_val rfl (run_assign (v := .bool _) rfl) ?_
                  refine lw_nil ?_
                  refine cw_ret ?_
                  refine res1 (v := .bool _) rfl rfl ?_
                  exact ⟨_, rfl, ret_b (by simp; omega), hs.nil⟩
end Go.Proofs.YtjiigajekminaaaDoor
