/- Chapter 20: the example, and what the statements ask of a journal. -/
import Derived.Test.YtmnfehbnjgmgjaaDoorJ
import Derived.Test.YtmnfehbnjgmgjaaDoorPx
namespace Go.Proofs.YtmnfehbnjgmgjaaDoor
set_option linter.all false
open Go.RowKit
attribute [local irreducible] errV eV
variable {g w : World} {L M : List HP} {ad : Nat → Addr} {p : Nat} {d : Dk}

abbrev zS : Nat × Bool × Int × Int × Int × Int := (0, false, 0, 0, 0, 0)
theorem jst_code {k : Nat} (b : List UInt8) (hk : k ≠ 110) : ∃ is x y z u, jst (k, b) = (0, is, x, y, z, u) ∧ (k ≠ 0 → is = false) := by
  simp only [jst, if_neg hk]
  split
  · split
    · rename_i h; exact ⟨_, _, _, _, _, rfl, fun h0 => absurd h.1 h0⟩
    · exact ⟨_, _, _, _, _, rfl, fun _ => rfl⟩
  · exact ⟨_, _, _, _, _, rfl, fun _ => rfl⟩
/-- What numbers that were laid say. -/
theorem jst_nums {l : List Int} (hl : ∀ z ∈ l, InI64 z) (hn : l.length ≤ 4096) : (∃ x y z u, l = [x, y, z, u] ∧ [x, y, z, u].all inR = true ∧ jst (0, numsL l) = (0, true, x, y, z, u)) ∨ (jst (0, numsL l) = zS ∧ ¬ (l.length = 4 ∧ l.all inR = true)) := by
  have h := rnums_nums hl hn
  by_cases h4 : l.length = 4 ∧ l.all inR = true
  · obtain ⟨x, y, z, u, rfl⟩ := list4 h4.1
    exact .inl ⟨x, y, z, u, rfl, h4.2, jst_some h h4.2⟩
  · refine .inr ⟨jst_none h (by decide) ?_, h4⟩
    by_cases h5 : l.length = 4
    · refine .inr (.inr (.inr ?_))
      refine Classical.byContradiction fun hc => h4 ⟨h5, List.all_eq_true.2 fun z hz => ?_⟩
      cases hb : inR z with
      | true => rfl
      | false => exact absurd ⟨z, hz, hb⟩ hc
    · exact .inr (.inr (.inl h5))
abbrev nU : List ByteArray := [nUp]
theorem nU_new : ∀ n ∈ nU, newN nUp ≠ n := fun n hn => by
  simp only [List.mem_cons, List.not_mem_nil, or_false] at hn
  subst hn
  exact newN_ne _
theorem nU_valid : validB nUp.data.toList = true ∧ validB (newN nUp).data.toList = true := by decide +kernel
set_option maxRecDepth 100000 in
theorem first20_sl (hE : ErrJ ad g) (hs : Mem g w []) : Calls Tryd.prog 25 #[] w (Ret fun v w' => v = .bool true ∧ Mem g w' []) := by
  refine calls_cw Tryd.func25 rfl rfl ?_
  skip
  refine cw_seq ?_
  refine cw_region ?_
  first | refine lw_val rfl (run_assign (v := .bool _) rfl) ?_
  refine lw_nil ?_
  refine cw_seq ?_
  refine cw_region ?_
  refine lw_call rfl en26 (newd_sl hs (r := 100) (by decide) (by decide)) ?_
  clear hs
  rintro _ w ⟨p, rfl, hs⟩
  first | refine lw_val rfl (run_move (v := .tuple _) rfl) ?_
  first | refine lw_val rfl (run_extract (v := .pointer (some _)) rfl rfl) ?_ | refine lw_val rfl (run_extract (v := .pointer none) rfl rfl) ?_
  first | refine lw_val rfl (run_extract (v := errV ad _) rfl rfl) ?_ | refine lw_val rfl (run_extract (v := .nilIface) rfl rfl) ?_ | refine lw_val rfl (run_extract (v := eV ad _ _) rfl rfl) ?_ | refine lw_val rfl (run_extract (v := .iface _ (.pointer (some _))) rfl rfl) ?_
  first | refine lw_val rfl (run_assign (v := .pointer (some _)) rfl) ?_ | refine lw_val rfl (run_assign (v := .pointer none) rfl) ?_
  first | refine lw_val rfl (run_assign (v := errV ad _) rfl) ?_ | refine lw_val rfl (run_assign (v := .nilIface) rfl) ?_ | refine lw_val rfl (run_assign (v := eV ad _ _) rfl) ?_ | refine lw_val rfl (run_assign (v := .iface _ (.pointer (some _))) rfl) ?_
  refine lw_nil ?_
  refine cw_seq ?_
  refine cw_seq ?_
  refine cw_region ?_
  first | refine lw_val rfl (run_move (v := .pointer (some _)) rfl) ?_ | refine lw_val rfl (run_move (v := .pointer none) rfl) ?_
  refine lw_val rfl (run_eqpn Tryd.underlying45 rfl rfl) ?_
  first | refine lw_val rfl (run_move (v := .bool _) rfl) ?_
  refine lw_on rfl rfl rfl ?_
  first | refine lw_val rfl (run_move (v := errV ad _) rfl) ?_ | refine lw_val rfl (run_move (v := .nilIface) rfl) ?_ | refine lw_val rfl (run_move (v := eV ad _ _) rfl) ?_ | refine lw_val rfl (run_move (v := .iface _ (.pointer (some _))) rfl) ?_
  refine lw_on rfl rfl rfl ?_
  first | refine lw_val rfl (run_neerrn (ad := ad) rfl) ?_ | refine lw_val rfl (run_nenn rfl) ?_ | refine lw_val rfl (run_neE (ad := ad) rfl) ?_
  first | refine lw_val rfl (run_pickF (v := .bool _) rfl rfl rfl) ?_
  refine lw_nil ?_
  refine cw_iff rfl (rfl) ?_
  refine cw_skip ?_
  refine cw_seq ?_
  refine cw_region ?_
  first | refine lw_val rfl (run_move (v := .pointer (some _)) rfl) ?_ | refine lw_val rfl (run_move (v := .pointer none) rfl) ?_
  refine lw_call rfl en28 (jread_sl hE hs (j := zS) (by kernel_rfl)) ?_
  clear hs
  rintro _ w ⟨rfl, hs⟩
  first | refine lw_val rfl (run_move (v := .tuple _) rfl) ?_
  first | refine lw_val rfl (run_extract (v := .agg _) rfl rfl) ?_
  first | refine lw_val rfl (run_extract (v := .bool _) rfl rfl) ?_
  first | refine lw_val rfl (run_extract (v := errV ad _) rfl rfl) ?_ | refine lw_val rfl (run_extract (v := .nilIface) rfl rfl) ?_ | refine lw_val rfl (run_extract (v := eV ad _ _) rfl rfl) ?_ | refine lw_val rfl (run_extract (v := .iface _ (.pointer (some _))) rfl rfl) ?_
  refine lw_alloc hs rfl ze50 ?_
  clear hs
  intro b3 w hs
  try simp only [List.set_cons_succ, List.set_cons_zero] at hs
  first | refine lw_storeRow hs 0 rfl rfl rfl sz50 rfl rfl ?_ | refine lw_storeRow hs 1 rfl rfl rfl sz50 rfl rfl ?_ | refine lw_storeRow hs 2 rfl rfl rfl sz50 rfl rfl ?_ | refine lw_storeRow hs 3 rfl rfl rfl sz50 rfl rfl ?_ | refine lw_storeRow hs 4 rfl rfl rfl sz50 rfl rfl ?_ | refine lw_storeRow hs 5 rfl rfl rfl sz50 rfl rfl ?_ | refine lw_storeRow hs 6 rfl rfl rfl sz50 rfl rfl ?_ | refine lw_storeRow hs 7 rfl rfl rfl sz50 rfl rfl ?_ | refine lw_storeRow hs 8 rfl rfl rfl sz50 rfl rfl ?_ | refine lw_storeRow hs 9 rfl rfl rfl sz50 rfl rfl ?_ | refine lw_storeRow hs 10 rfl rfl rfl sz50 rfl rfl ?_ | refine lw_storeRow hs 11 rfl rfl rfl sz50 rfl rfl ?_ | refine lw_storeRow hs 12 rfl rfl rfl sz50 rfl rfl ?_ | refine lw_storeRow hs 13 rfl rfl rfl sz50 rfl rfl ?_
  clear hs
  intro w hs
  try simp only [List.set_cons_succ, List.set_cons_zero] at hs
  first | refine lw_val rfl (run_assign (v := .bool _) rfl) ?_
  first | refine lw_val rfl (run_assign (v := errV ad _) rfl) ?_ | refine lw_val rfl (run_assign (v := .nilIface) rfl) ?_ | refine lw_val rfl (run_assign (v := eV ad _ _) rfl) ?_ | refine lw_val rfl (run_assign (v := .iface _ (.pointer (some _))) rfl) ?_
  refine lw_nil ?_
  refine cw_seq ?_
  refine cw_region ?_
  first | refine lw_val rfl (run_move (v := errV ad _) rfl) ?_ | refine lw_val rfl (run_move (v := .nilIface) rfl) ?_ | refine lw_val rfl (run_move (v := eV ad _ _) rfl) ?_ | refine lw_val rfl (run_move (v := .iface _ (.pointer (some _))) rfl) ?_
  first | refine lw_val rfl (run_eqerrn (ad := ad) rfl) ?_ | refine lw_val rfl (run_eqnn rfl) ?_ | refine lw_val rfl (run_eqE (ad := ad) rfl) ?_
  first | refine lw_val rfl (run_move (v := .bool _) rfl) ?_
  refine lw_on rfl rfl (rfl) ?_
  first | refine lw_val rfl (run_move (v := .bool _) rfl) ?_
  refine lw_on rfl rfl (rfl) ?_
  refine lw_val rfl (run_not rfl) ?_
  first | refine lw_val rfl (run_pickT (v := .bool _) rfl (rfl) rfl) ?_
  first | refine lw_val rfl (run_move (v := .bool _) rfl) ?_
  refine lw_on rfl rfl (not_t (rfl)) ?_
  first | refine lw_val rfl (run_fieldAddr (o' := 0) Tryd.underlying50 rfl sz3 rfl rfl rfl) ?_ | refine lw_val rfl (run_fieldAddr Tryd.underlying50 rfl sz3 rfl rfl rfl) ?_
  refine lw_on rfl rfl (not_t (rfl)) ?_
  first | refine lw_val rfl (run_load Tryd.underlying3 rfl rfl (hs.cellAt 0 rfl rfl)) ?_ | refine lw_val rfl (run_load Tryd.underlying3 rfl rfl (hs.cellAt 1 rfl rfl)) ?_ | refine lw_val rfl (run_load Tryd.underlying3 rfl rfl (hs.cellAt 2 rfl rfl)) ?_ | refine lw_val rfl (run_load Tryd.underlying3 rfl rfl (hs.cellAt 3 rfl rfl)) ?_ | refine lw_val rfl (run_load Tryd.underlying3 rfl rfl (hs.cellAt 4 rfl rfl)) ?_ | refine lw_val rfl (run_load Tryd.underlying3 rfl rfl (hs.cellAt 5 rfl rfl)) ?_ | refine lw_val rfl (run_load Tryd.underlying3 rfl rfl (hs.cellAt 6 rfl rfl)) ?_ | refine lw_val rfl (run_load Tryd.underlying3 rfl rfl (hs.cellAt 7 rfl rfl)) ?_ | refine lw_val rfl (run_load Tryd.underlying3 rfl rfl (hs.cellAt 8 rfl rfl)) ?_ | refine lw_val rfl (run_load Tryd.underlying3 rfl rfl (hs.cellAt 9 rfl rfl)) ?_ | refine lw_val rfl (run_load Tryd.underlying3 rfl rfl (hs.cellAt 10 rfl rfl)) ?_ | refine lw_val rfl (run_load Tryd.underlying3 rfl rfl (hs.cellAt 11 rfl rfl)) ?_ | refine lw_val rfl (run_load Tryd.underlying3 rfl rfl (hs.cellAt 12 rfl rfl)) ?_ | refine lw_val rfl (run_load Tryd.underlying3 rfl rfl (hs.cellAt 13 rfl rfl)) ?_
  refine lw_on rfl rfl (not_t (rfl)) ?_
  refine lw_val rfl (run_eqi rfl rfl) ?_
  first | refine lw_val rfl (run_pickT (v := .bool _) rfl (not_t (rfl)) rfl) ?_
  first | refine lw_val rfl (run_assign (v := .bool _) rfl) ?_
  refine lw_nil ?_
  refine cw_ret ?_
  refine res1 (v := .bool _) rfl rfl ?_
  exact ⟨_, rfl, rfl, hs.nil⟩
theorem same20_sl (hs : Mem g w L) (x y z u x2 y2 z2 u2 : Int) : Calls Tryd.prog 35 #[.agg #[.int .i64 x, .int .i64 y, .int .i64 z, .int .i64 u], .agg #[.int .i64 x2, .int .i64 y2, .int .i64 z2, .int .i64 u2]] w (Ret fun v w' => v = .bool (decide ([x, y, z, u] = [x2, y2, z2, u2])) ∧ Mem g w' L) := by
  refine calls_cw Tryd.func35 rfl rfl ?_
  skip
  refine cw_seq ?_
  refine cw_region ?_
  first | refine lw_box (v := .agg _) hs rfl rfl ?_
  clear hs
  intro b2 w hs
  try simp only [List.set_cons_succ, List.set_cons_zero] at hs
  first | refine lw_box (v := .agg _) hs rfl rfl ?_
  clear hs
  intro b3 w hs
  try simp only [List.set_cons_succ, List.set_cons_zero] at hs
  first | refine lw_val rfl (run_assign (v := .bool _) rfl) ?_
  refine lw_nil ?_
  refine cw_seq ?_
  refine cw_region ?_
  first | refine lw_val rfl (run_fieldAddr (o' := 0) Tryd.underlying50 rfl sz3 rfl rfl rfl) ?_ | refine lw_val rfl (run_fieldAddr Tryd.underlying50 rfl sz3 rfl rfl rfl) ?_
  first | refine lw_val rfl (run_load Tryd.underlying3 rfl rfl (hs.cellAt 0 rfl rfl)) ?_ | refine lw_val rfl (run_load Tryd.underlying3 rfl rfl (hs.cellAt 1 rfl rfl)) ?_ | refine lw_val rfl (run_load Tryd.underlying3 rfl rfl (hs.cellAt 2 rfl rfl)) ?_ | refine lw_val rfl (run_load Tryd.underlying3 rfl rfl (hs.cellAt 3 rfl rfl)) ?_ | refine lw_val rfl (run_load Tryd.underlying3 rfl rfl (hs.cellAt 4 rfl rfl)) ?_ | refine lw_val rfl (run_load Tryd.underlying3 rfl rfl (hs.cellAt 5 rfl rfl)) ?_ | refine lw_val rfl (run_load Tryd.underlying3 rfl rfl (hs.cellAt 6 rfl rfl)) ?_ | refine lw_val rfl (run_load Tryd.underlying3 rfl rfl (hs.cellAt 7 rfl rfl)) ?_ | refine lw_val rfl (run_load Tryd.underlying3 rfl rfl (hs.cellAt 8 rfl rfl)) ?_ | refine lw_val rfl (run_load Tryd.underlying3 rfl rfl (hs.cellAt 9 rfl rfl)) ?_ | refine lw_val rfl (run_load Tryd.underlying3 rfl rfl (hs.cellAt 10 rfl rfl)) ?_ | refine lw_val rfl (run_load Tryd.underlying3 rfl rfl (hs.cellAt 11 rfl rfl)) ?_ | refine lw_val rfl (run_load Tryd.underlying3 rfl rfl (hs.cellAt 12 rfl rfl)) ?_ | refine lw_val rfl (run_load Tryd.underlying3 rfl rfl (hs.cellAt 13 rfl rfl)) ?_
  first | refine lw_val rfl (run_fieldAddr (o' := 0) Tryd.underlying50 rfl sz3 rfl rfl rfl) ?_ | refine lw_val rfl (run_fieldAddr Tryd.underlying50 rfl sz3 rfl rfl rfl) ?_
  first | refine lw_val rfl (run_load Tryd.underlying3 rfl rfl (hs.cellAt 0 rfl rfl)) ?_ | refine lw_val rfl (run_load Tryd.underlying3 rfl rfl (hs.cellAt 1 rfl rfl)) ?_ | refine lw_val rfl (run_load Tryd.underlying3 rfl rfl (hs.cellAt 2 rfl rfl)) ?_ | refine lw_val rfl (run_load Tryd.underlying3 rfl rfl (hs.cellAt 3 rfl rfl)) ?_ | refine lw_val rfl (run_load Tryd.underlying3 rfl rfl (hs.cellAt 4 rfl rfl)) ?_ | refine lw_val rfl (run_load Tryd.underlying3 rfl rfl (hs.cellAt 5 rfl rfl)) ?_ | refine lw_val rfl (run_load Tryd.underlying3 rfl rfl (hs.cellAt 6 rfl rfl)) ?_ | refine lw_val rfl (run_load Tryd.underlying3 rfl rfl (hs.cellAt 7 rfl rfl)) ?_ | refine lw_val rfl (run_load Tryd.underlying3 rfl rfl (hs.cellAt 8 rfl rfl)) ?_ | refine lw_val rfl (run_load Tryd.underlying3 rfl rfl (hs.cellAt 9 rfl rfl)) ?_ | refine lw_val rfl (run_load Tryd.underlying3 rfl rfl (hs.cellAt 10 rfl rfl)) ?_ | refine lw_val rfl (run_load Tryd.underlying3 rfl rfl (hs.cellAt 11 rfl rfl)) ?_ | refine lw_val rfl (run_load Tryd.underlying3 rfl rfl (hs.cellAt 12 rfl rfl)) ?_ | refine lw_val rfl (run_load Tryd.underlying3 rfl rfl (hs.cellAt 13 rfl rfl)) ?_
  refine lw_val rfl (run_eqi rfl rfl) ?_
  first | refine lw_val rfl (run_move (v := .bool _) rfl) ?_
  refine lw_split (t := _) (d := 10) rfl ?_ ?_
  · intro h9
    have g9 := of_decide_eq_true h9
    refine lw_on rfl rfl h9 ?_
    first | refine lw_val rfl (run_fieldAddr (o' := 1) Tryd.underlying50 rfl sz3 rfl rfl rfl) ?_ | refine lw_val rfl (run_fieldAddr Tryd.underlying50 rfl sz3 rfl rfl rfl) ?_
    refine lw_on rfl rfl h9 ?_
    first | refine lw_val rfl (run_load Tryd.underlying3 rfl rfl (hs.cellAt 0 rfl rfl)) ?_ | refine lw_val rfl (run_load Tryd.underlying3 rfl rfl (hs.cellAt 1 rfl rfl)) ?_ | refine lw_val rfl (run_load Tryd.underlying3 rfl rfl (hs.cellAt 2 rfl rfl)) ?_ | refine lw_val rfl (run_load Tryd.underlying3 rfl rfl (hs.cellAt 3 rfl rfl)) ?_ | refine lw_val rfl (run_load Tryd.underlying3 rfl rfl (hs.cellAt 4 rfl rfl)) ?_ | refine lw_val rfl (run_load Tryd.underlying3 rfl rfl (hs.cellAt 5 rfl rfl)) ?_ | refine lw_val rfl (run_load Tryd.underlying3 rfl rfl (hs.cellAt 6 rfl rfl)) ?_ | refine lw_val rfl (run_load Tryd.underlying3 rfl rfl (hs.cellAt 7 rfl rfl)) ?_ | refine lw_val rfl (run_load Tryd.underlying3 rfl rfl (hs.cellAt 8 rfl rfl)) ?_ | refine lw_val rfl (run_load Tryd.underlying3 rfl rfl (hs.cellAt 9 rfl rfl)) ?_ | refine lw_val rfl (run_load Tryd.underlying3 rfl rfl (hs.cellAt 10 rfl rfl)) ?_ | refine lw_val rfl (run_load Tryd.underlying3 rfl rfl (hs.cellAt 11 rfl rfl)) ?_ | refine lw_val rfl (run_load Tryd.underlying3 rfl rfl (hs.cellAt 12 rfl rfl)) ?_ | refine lw_val rfl (run_load Tryd.underlying3 rfl rfl (hs.cellAt 13 rfl rfl)) ?_
    refine lw_on rfl rfl h9 ?_
    first | refine lw_val rfl (run_fieldAddr (o' := 1) Tryd.underlying50 rfl sz3 rfl rfl rfl) ?_ | refine lw_val rfl (run_fieldAddr Tryd.underlying50 rfl sz3 rfl rfl rfl) ?_
    refine lw_on rfl rfl h9 ?_
    first | refine lw_val rfl (run_load Tryd.underlying3 rfl rfl (hs.cellAt 0 rfl rfl)) ?_ | refine lw_val rfl (run_load Tryd.underlying3 rfl rfl (hs.cellAt 1 rfl rfl)) ?_ | refine lw_val rfl (run_load Tryd.underlying3 rfl rfl (hs.cellAt 2 rfl rfl)) ?_ | refine lw_val rfl (run_load Tryd.underlying3 rfl rfl (hs.cellAt 3 rfl rfl)) ?_ | refine lw_val rfl (run_load Tryd.underlying3 rfl rfl (hs.cellAt 4 rfl rfl)) ?_ | refine lw_val rfl (run_load Tryd.underlying3 rfl rfl (hs.cellAt 5 rfl rfl)) ?_ | refine lw_val rfl (run_load Tryd.underlying3 rfl rfl (hs.cellAt 6 rfl rfl)) ?_ | refine lw_val rfl (run_load Tryd.underlying3 rfl rfl (hs.cellAt 7 rfl rfl)) ?_ | refine lw_val rfl (run_load Tryd.underlying3 rfl rfl (hs.cellAt 8 rfl rfl)) ?_ | refine lw_val rfl (run_load Tryd.underlying3 rfl rfl (hs.cellAt 9 rfl rfl)) ?_ | refine lw_val rfl (run_load Tryd.underlying3 rfl rfl (hs.cellAt 10 rfl rfl)) ?_ | refine lw_val rfl (run_load Tryd.underlying3 rfl rfl (hs.cellAt 11 rfl rfl)) ?_ | refine lw_val rfl (run_load Tryd.underlying3 rfl rfl (hs.cellAt 12 rfl rfl)) ?_ | refine lw_val rfl (run_load Tryd.underlying3 rfl rfl (hs.cellAt 13 rfl rfl)) ?_
    refine lw_on rfl rfl h9 ?_
    refine lw_val rfl (run_eqi rfl rfl) ?_
    first | refine lw_val rfl (run_pickT (v := .bool _) rfl h9 rfl) ?_
    first | refine lw_val rfl (run_move (v := .bool _) rfl) ?_
    refine lw_split (t := _) (d := 17) rfl ?_ ?_
    · intro h15
      have g15 := of_decide_eq_true h15
      refine lw_on rfl rfl h15 ?_
      first | refine lw_val rfl (run_fieldAddr (o' := 2) Tryd.underlying50 rfl sz3 rfl rfl rfl) ?_ | refine lw_val rfl (run_fieldAddr Tryd.underlying50 rfl sz3 rfl rfl rfl) ?_
      refine lw_on rfl rfl h15 ?_
      first | refine lw_val rfl (run_load Tryd.underlying3 rfl rfl (hs.cellAt 0 rfl rfl)) ?_ | refine lw_val rfl (run_load Tryd.underlying3 rfl rfl (hs.cellAt 1 rfl rfl)) ?_ | refine lw_val rfl (run_load Tryd.underlying3 rfl rfl (hs.cellAt 2 rfl rfl)) ?_ | refine lw_val rfl (run_load Tryd.underlying3 rfl rfl (hs.cellAt 3 rfl rfl)) ?_ | refine lw_val rfl (run_load Tryd.underlying3 rfl rfl (hs.cellAt 4 rfl rfl)) ?_ | refine lw_val rfl (run_load Tryd.underlying3 rfl rfl (hs.cellAt 5 rfl rfl)) ?_ | refine lw_val rfl (run_load Tryd.underlying3 rfl rfl (hs.cellAt 6 rfl rfl)) ?_ | refine lw_val rfl (run_load Tryd.underlying3 rfl rfl (hs.cellAt 7 rfl rfl)) ?_ | refine lw_val rfl (run_load Tryd.underlying3 rfl rfl (hs.cellAt 8 rfl rfl)) ?_ | refine lw_val rfl (run_load Tryd.underlying3 rfl rfl (hs.cellAt 9 rfl rfl)) ?_ | refine lw_val rfl (run_load Tryd.underlying3 rfl rfl (hs.cellAt 10 rfl rfl)) ?_ | refine lw_val rfl (run_load Tryd.underlying3 rfl rfl (hs.cellAt 11 rfl rfl)) ?_ | refine lw_val rfl (run_load Tryd.underlying3 rfl rfl (hs.cellAt 12 rfl rfl)) ?_ | refine lw_val rfl (run_load Tryd.underlying3 rfl rfl (hs.cellAt 13 rfl rfl)) ?_
      refine lw_on rfl rfl h15 ?_
      first | refine lw_val rfl (run_fieldAddr (o' := 2) Tryd.underlying50 rfl sz3 rfl rfl rfl) ?_ | refine lw_val rfl (run_fieldAddr Tryd.underlying50 rfl sz3 rfl rfl rfl) ?_
      refine lw_on rfl rfl h15 ?_
      first | refine lw_val rfl (run_load Tryd.underlying3 rfl rfl (hs.cellAt 0 rfl rfl)) ?_ | refine lw_val rfl (run_load Tryd.underlying3 rfl rfl (hs.cellAt 1 rfl rfl)) ?_ | refine lw_val rfl (run_load Tryd.underlying3 rfl rfl (hs.cellAt 2 rfl rfl)) ?_ | refine lw_val rfl (run_load Tryd.underlying3 rfl rfl (hs.cellAt 3 rfl rfl)) ?_ | refine lw_val rfl (run_load Tryd.underlying3 rfl rfl (hs.cellAt 4 rfl rfl)) ?_ | refine lw_val rfl (run_load Tryd.underlying3 rfl rfl (hs.cellAt 5 rfl rfl)) ?_ | refine lw_val rfl (run_load Tryd.underlying3 rfl rfl (hs.cellAt 6 rfl rfl)) ?_ | refine lw_val rfl (run_load Tryd.underlying3 rfl rfl (hs.cellAt 7 rfl rfl)) ?_ | refine lw_val rfl (run_load Tryd.underlying3 rfl rfl (hs.cellAt 8 rfl rfl)) ?_ | refine lw_val rfl (run_load Tryd.underlying3 rfl rfl (hs.cellAt 9 rfl rfl)) ?_ | refine lw_val rfl (run_load Tryd.underlying3 rfl rfl (hs.cellAt 10 rfl rfl)) ?_ | refine lw_val rfl (run_load Tryd.underlying3 rfl rfl (hs.cellAt 11 rfl rfl)) ?_ | refine lw_val rfl (run_load Tryd.underlying3 rfl rfl (hs.cellAt 12 rfl rfl)) ?_ | refine lw_val rfl (run_load Tryd.underlying3 rfl rfl (hs.cellAt 13 rfl rfl)) ?_
      refine lw_on rfl rfl h15 ?_
      refine lw_val rfl (run_eqi rfl rfl) ?_
      first | refine lw_val rfl (run_pickT (v := .bool _) rfl h15 rfl) ?_
      first | refine lw_val rfl (run_move (v := .bool _) rfl) ?_
      refine lw_split (t := _) (d := 24) rfl ?_ ?_
      · intro h22
        have g22 := of_decide_eq_true h22
        refine lw_on rfl rfl h22 ?_
        first | refine lw_val rfl (run_fieldAddr (o' := 3) Tryd.underlying50 rfl sz3 rfl rfl rfl) ?_ | refine lw_val rfl (run_fieldAddr Tryd.underlying50 rfl sz3 rfl rfl rfl) ?_
        refine lw_on rfl rfl h22 ?_
        first | refine lw_val rfl (run_load Tryd.underlying3 rfl rfl (hs.cellAt 0 rfl rfl)) ?_ | refine lw_val rfl (run_load Tryd.underlying3 rfl rfl (hs.cellAt 1 rfl rfl)) ?_ | refine lw_val rfl (run_load Tryd.underlying3 rfl rfl (hs.cellAt 2 rfl rfl)) ?_ | refine lw_val rfl (run_load Tryd.underlying3 rfl rfl (hs.cellAt 3 rfl rfl)) ?_ | refine lw_val rfl (run_load Tryd.underlying3 rfl rfl (hs.cellAt 4 rfl rfl)) ?_ | refine lw_val rfl (run_load Tryd.underlying3 rfl rfl (hs.cellAt 5 rfl rfl)) ?_ | refine lw_val rfl (run_load Tryd.underlying3 rfl rfl (hs.cellAt 6 rfl rfl)) ?_ | refine lw_val rfl (run_load Tryd.underlying3 rfl rfl (hs.cellAt 7 rfl rfl)) ?_ | refine lw_val rfl (run_load Tryd.underlying3 rfl rfl (hs.cellAt 8 rfl rfl)) ?_ | refine lw_val rfl (run_load Tryd.underlying3 rfl rfl (hs.cellAt 9 rfl rfl)) ?_ | refine lw_val rfl (run_load Tryd.underlying3 rfl rfl (hs.cellAt 10 rfl rfl)) ?_ | refine lw_val rfl (run_load Tryd.underlying3 rfl rfl (hs.cellAt 11 rfl rfl)) ?_ | refine lw_val rfl (run_load Tryd.underlying3 rfl rfl (hs.cellAt 12 rfl rfl)) ?_ | refine lw_val rfl (run_load Tryd.underlying3 rfl rfl (hs.cellAt 13 rfl rfl)) ?_
        refine lw_on rfl rfl h22 ?_
        first | refine lw_val rfl (run_fieldAddr (o' := 3) Tryd.underlying50 rfl sz3 rfl rfl rfl) ?_ | refine lw_val rfl (run_fieldAddr Tryd.underlying50 rfl sz3 rfl rfl rfl) ?_
        refine lw_on rfl rfl h22 ?_
        first | refine lw_val rfl (run_load Tryd.underlying3 rfl rfl (hs.cellAt 0 rfl rfl)) ?_ | refine lw_val rfl (run_load Tryd.underlying3 rfl rfl (hs.cellAt 1 rfl rfl)) ?_ | refine lw_val rfl (run_load Tryd.underlying3 rfl rfl (hs.cellAt 2 rfl rfl)) ?_ | refine lw_val rfl (run_load Tryd.underlying3 rfl rfl (hs.cellAt 3 rfl rfl)) ?_ | refine lw_val rfl (run_load Tryd.underlying3 rfl rfl (hs.cellAt 4 rfl rfl)) ?_ | refine lw_val rfl (run_load Tryd.underlying3 rfl rfl (hs.cellAt 5 rfl rfl)) ?_ | refine lw_val rfl (run_load Tryd.underlying3 rfl rfl (hs.cellAt 6 rfl rfl)) ?_ | refine lw_val rfl (run_load Tryd.underlying3 rfl rfl (hs.cellAt 7 rfl rfl)) ?_ | refine lw_val rfl (run_load Tryd.underlying3 rfl rfl (hs.cellAt 8 rfl rfl)) ?_ | refine lw_val rfl (run_load Tryd.underlying3 rfl rfl (hs.cellAt 9 rfl rfl)) ?_ | refine lw_val rfl (run_load Tryd.underlying3 rfl rfl (hs.cellAt 10 rfl rfl)) ?_ | refine lw_val rfl (run_load Tryd.underlying3 rfl rfl (hs.cellAt 11 rfl rfl)) ?_ | refine lw_val rfl (run_load Tryd.underlying3 rfl rfl (hs.cellAt 12 rfl rfl)) ?_ | refine lw_val rfl (run_load Tryd.underlying3 rfl rfl (hs.cellAt 13 rfl rfl)) ?_
        refine lw_on rfl rfl h22 ?_
        refine lw_val rfl (run_eqi rfl rfl) ?_
        first | refine lw_val rfl (run_pickT (v := .bool _) rfl h22 rfl) ?_
        first | refine lw_val rfl (run_assign (v := .bool _) rfl) ?_
        refine lw_nil ?_
        refine cw_ret ?_
        refine res1 (v := .bool _) rfl rfl ?_
        exact ⟨_, rfl, ret_b (by simp [g9, g15, g22]), hs.suffix 2 rfl⟩
      · intro h22
        have g22 := of_decide_eq_false h22
        refine lw_off rfl rfl rfl h22 ?_
        refine lw_off rfl rfl rfl h22 ?_
        refine lw_off rfl rfl rfl h22 ?_
        refine lw_off rfl rfl rfl h22 ?_
        refine lw_off rfl rfl rfl h22 ?_
        first | refine lw_val rfl (run_pickF (v := .bool _) rfl h22 rfl) ?_
        first | refine lw_val rfl (run_assign (v := .bool _) rfl) ?_
        refine lw_nil ?_
        refine cw_ret ?_
        refine res1 (v := .bool _) rfl rfl ?_
        exact ⟨_, rfl, ret_b (by simp [g22]), hs.suffix 2 rfl⟩
    · intro h15
      have g15 := of_decide_eq_false h15
      refine lw_off rfl rfl rfl h15 ?_
      refine lw_off rfl rfl rfl h15 ?_
      refine lw_off rfl rfl rfl h15 ?_
      refine lw_off rfl rfl rfl h15 ?_
      refine lw_off rfl rfl rfl h15 ?_
      first | refine lw_val rfl (run_pickF (v := .bool _) rfl h15 rfl) ?_
      first | refine lw_val rfl (run_move (v := .bool _) rfl) ?_
      refine lw_off rfl rfl rfl rfl ?_
      refine lw_off rfl rfl rfl rfl ?_
      refine lw_off rfl rfl rfl rfl ?_
      refine lw_off rfl rfl rfl rfl ?_
      refine lw_off rfl rfl rfl rfl ?_
      first | refine lw_val rfl (run_pickF (v := .bool _) rfl rfl rfl) ?_
      first | refine lw_val rfl (run_assign (v := .bool _) rfl) ?_
      refine lw_nil ?_
      refine cw_ret ?_
      refine res1 (v := .bool _) rfl rfl ?_
      exact ⟨_, rfl, ret_b (by simp [g15]), hs.suffix 2 rfl⟩
  · intro h9
    have g9 := of_decide_eq_false h9
    refine lw_off rfl rfl rfl h9 ?_
    refine lw_off rfl rfl rfl h9 ?_
    refine lw_off rfl rfl rfl h9 ?_
    refine lw_off rfl rfl rfl h9 ?_
    refine lw_off rfl rfl rfl h9 ?_
    first | refine lw_val rfl (run_pickF (v := .bool _) rfl h9 rfl) ?_
    first | refine lw_val rfl (run_move (v := .bool _) rfl) ?_
    refine lw_off rfl rfl rfl rfl ?_
    refine lw_off rfl rfl rfl rfl ?_
    refine lw_off rfl rfl rfl rfl ?_
    refine lw_off rfl rfl rfl rfl ?_
    refine lw_off rfl rfl rfl rfl ?_
    first | refine lw_val rfl (run_pickF (v := .bool _) rfl rfl rfl) ?_
    first | refine lw_val rfl (run_move (v := .bool _) rfl) ?_
    refine lw_off rfl rfl rfl rfl ?_
    refine lw_off rfl rfl rfl rfl ?_
    refine lw_off rfl rfl rfl rfl ?_
    refine lw_off rfl rfl rfl rfl ?_
    refine lw_off rfl rfl rfl rfl ?_
    first | refine lw_val rfl (run_pickF (v := .bool _) rfl rfl rfl) ?_
    first | refine lw_val rfl (run_assign (v := .bool _) rfl) ?_
    refine lw_nil ?_
    refine cw_ret ?_
    refine res1 (v := .bool _) rfl rfl ?_
    exact ⟨_, rfl, ret_b (by simp [g9]), hs.suffix 2 rfl⟩
theorem right_sl (hs : Mem g w L) (x : Int) : Calls Tryd.prog 33 #[.int .i64 x] w (Ret fun v w' => v = .bool (inR x) ∧ Mem g w' L) := by
  refine calls_cw Tryd.func33 rfl rfl ?_
  skip
  refine cw_seq ?_
  refine cw_region ?_
  first | refine lw_val rfl (run_assign (v := .bool _) rfl) ?_
  refine lw_nil ?_
  refine cw_seq ?_
  refine cw_region ?_
  first | refine lw_val rfl (run_move (v := .int .i64 _) rfl) ?_
  refine lw_val rfl (run_geq rfl rfl) ?_
  first | refine lw_val rfl (run_move (v := .bool _) rfl) ?_
  refine lw_split (t := _) (d := 5) rfl ?_ ?_
  · intro h4
    have g4 := of_decide_eq_true h4
    refine lw_on rfl rfl h4 ?_
    first | refine lw_val rfl (run_move (v := .int .i64 _) rfl) ?_
    refine lw_on rfl rfl h4 ?_
    refine lw_val rfl (run_leq rfl rfl) ?_
    first | refine lw_val rfl (run_pickT (v := .bool _) rfl h4 rfl) ?_
    first | refine lw_val rfl (run_assign (v := .bool _) rfl) ?_
    refine lw_nil ?_
    refine cw_ret ?_
    refine res1 (v := .bool _) rfl rfl ?_
    exact ⟨_, rfl, ret_b (by simp only [inR]; first | (rw [decide_eq_false (by omega)]; rfl) | (rw [decide_eq_true (show 0 ≤ x by omega)]; rfl)), hs⟩
  · intro h4
    have g4 := of_decide_eq_false h4
    refine lw_off rfl rfl rfl h4 ?_
    refine lw_off rfl rfl rfl h4 ?_
    first | refine lw_val rfl (run_pickF (v := .bool _) rfl h4 rfl) ?_
    first | refine lw_val rfl (run_assign (v := .bool _) rfl) ?_
    refine lw_nil ?_
    refine cw_ret ?_
    refine res1 (v := .bool _) rfl rfl ?_
    exact ⟨_, rfl, ret_b (by simp only [inR]; first | (rw [decide_eq_false (by omega)]; rfl) | (rw [decide_eq_true (show 0 ≤ x by omega)]; rfl)), hs⟩
theorem nums4_len {l : List Int} (h : l.length = 4) : (numsL l).length ≤ 50 := by have := numsL_len l; omega
theorem PtI.jwrite {f : ByteArray → Option (List UInt8)} (h : PtI nU 100 f d) {l : List Int} (hl : l.length = 4) (hr : 300 ≤ d.room) :
    ∃ k e, d.jwrite l = (k, e) ∧ e.room = d.room ∧ e.calls ≤ d.calls + 6 ∧
      ((l.all inR = true ∧ k = 0 ∧ e.down = false ∧ (d.armed = 0 → e.armed = 0) ∧ (e.ok → PtI nU 100 (updF f nUp (numsL l)) e)) ∨
       (l.all inR = true ∧ k = 110 ∧ e.down = true ∧ d.armed ≠ 0 ∧ (e.ok → ∀ picks, PtI nU 100 f (e.crash picks) ∨ PtI nU 100 (updF f nUp (numsL l)) (e.crash picks))) ∨
       (l.all inR = false ∧ k = 105 ∧ e = d)) := by
  cases hin : l.all inR with
  | false => exact ⟨105, d, by simp [Dk.jwrite, hin], rfl, by omega, .inr (.inr ⟨rfl, rfl, rfl⟩)⟩
  | true =>
    have hn := nums4_len hl
    obtain ⟨k, e, hw, hro, hd⟩ := h.write (s := nUp) (b := numsL l) (by simp) nU_new nU_valid.1 nU_valid.2 (by omega) (by show 2 * 1 * 100 + 100 ≤ d.room; omega)
    refine ⟨k, e, by simp [Dk.jwrite, hin, hw], hro, Dk.write_calls hw, ?_⟩
    rcases hd with ⟨h1, h2, h3, h4⟩ | ⟨h1, h2, h3, h4⟩
    · exact .inl ⟨rfl, h1, h2, h3, h4⟩
    · exact .inr (.inl ⟨rfl, h1, h2, h3, h4⟩)
theorem PtI.jread {f : ByteArray → Option (List UInt8)} (h : PtI nU 100 f d) {x y z u : Int} (hf : f nUp = some (numsL [x, y, z, u])) (hl : ∀ q ∈ [x, y, z, u], InI64 q) (ha : [x, y, z, u].all inR = true) : jst (d.pread nUp) = (0, true, x, y, z, u) := by
  rw [h.read (by simp), hf]
  exact jst_some (rnums_nums hl (by simp)) ha
theorem PtI.jnone {f : ByteArray → Option (List UInt8)} (h : PtI nU 100 f d) (hf : f nUp = none) : jst (d.pread nUp) = zS := by
  rw [h.read (by simp), hf]
  have hv : vget [] = (101, 0, 0) := vgetF_none rfl
  have h2 : rnums [] = (101, []) := by simp [rnums, vnum, hv, rloop]
  exact jst_none h2 (by decide) (.inl (by decide))
theorem upU (f : ByteArray → Option (List UInt8)) (v : List UInt8) : updF f nUp v nUp = some v := by simp [updF]
theorem inR_I {x : Int} (h : inR x = true) : InI64 x := by have := inR_iff.1 h; exact ⟨by omega, by omega⟩
theorem all_I {l : List Int} (h : l.all inR = true) : ∀ q ∈ l, InI64 q := fun q hq => inR_I (List.all_eq_true.1 h q hq)
end Go.Proofs.YtmnfehbnjgmgjaaDoor
