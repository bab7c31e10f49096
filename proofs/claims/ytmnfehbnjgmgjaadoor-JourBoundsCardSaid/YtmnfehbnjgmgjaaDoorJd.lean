/- The law JourBounds. -/
import Derived.Test.YtmnfehbnjgmgjaaDoorJc
namespace Go.Proofs.YtmnfehbnjgmgjaaDoor
set_option linter.all false
open Go.RowKit
attribute [local irreducible] errV eV
variable {g w : World} {L M : List HP} {ad : Nat → Addr} {p : Nat} {d : Dk}

set_option maxRecDepth 100000 in
set_option maxHeartbeats 4000000 in
theorem jourBounds_sl (hA : ErrA ad g) (hs : Mem g w []) {n fl : Int} (hn : InI64 n) : Calls Tryd.prog 5 #[.int .i64 n, .int .i64 fl] w (Ret fun v w' => v = .bool true ∧ Mem g w' []) := by
  have hE : ErrJ ad g := hA.sub (by decide)
  have pt0 : PtI nU 100 (fun _ => none) (Dk.empty 1000) := PtI.start (by decide)
  have i1 : InI64 1 := ⟨by decide, by decide⟩
  have i2 : InI64 2 := ⟨by decide, by decide⟩
  have i3 : InI64 3 := ⟨by decide, by decide⟩
  have i4 : InI64 4 := ⟨by decide, by decide⟩
  obtain ⟨k1, e1, hw1, hr1, hc1, hd1⟩ := pt0.jwrite (l := [1, 2, 3, 4]) rfl (by decide)
  have hd1 := hd1.resolve_right (fun h => h.elim (fun h => h.2.2.2.1 rfl) (fun h => absurd h.1 (by decide)))
  obtain ⟨_, rfl, hu1, ha1, hp1⟩ := hd1
  have ha1 := ha1 rfl
  simp only [Dk.empty] at hc1 hr1
  have hal : (inR n = false ∧ [n, 2, 3, 4].all inR = false ∧ [1, n, 3, 4].all inR = false ∧ [1, 2, n, 4].all inR = false ∧ [1, 2, 3, n].all inR = false) ∨ (inR n = true ∧ [n, 2, 3, 4].all inR = true ∧ [1, n, 3, 4].all inR = true ∧ [1, 2, n, 4].all inR = true ∧ [1, 2, 3, n].all inR = true) := by
    have e1 : inR 1 = true := by decide
    have e2 : inR 2 = true := by decide
    have e3 : inR 3 = true := by decide
    have e4 : inR 4 = true := by decide
    cases h : inR n
    · exact .inl (by simp [h])
    · exact .inr (by simp [h, e1, e2, e3, e4])
  have hno : ∀ l : List Int, l.all inR = false → e1.jwrite l = (105, e1) := fun l h => by simp [Dk.jwrite, h]
  refine calls_cw Tryd.func5 rfl rfl ?_
  skip
  refine cw_seq ?_
  refine cw_region ?_
  first | refine lw_val rfl (run_assign (v := .bool _) rfl) ?_
  refine lw_nil ?_
  refine cw_seq ?_
  refine cw_region ?_
  refine lw_call rfl en25 (first20_sl hE hs) ?_
  clear hs
  rintro _ w ⟨rfl, hs⟩
  first | refine lw_val rfl (run_assign (v := .bool _) rfl) ?_
  refine lw_nil ?_
  refine cw_seq ?_
  refine cw_seq ?_
  refine cw_region ?_
  first | refine lw_val rfl (run_move (v := .bool _) rfl) ?_
  refine lw_val rfl (run_not rfl) ?_
  refine lw_nil ?_
  refine cw_iff rfl (not_f (rfl)) ?_
  refine cw_skip ?_
  refine cw_seq ?_
  refine cw_region ?_
  refine lw_call rfl en26 (newd_sl hs (r := 1000) (by decide) (by decide)) ?_
  clear hs
  rintro _ w ⟨p, rfl, hs⟩
  first | refine lw_val rfl (run_move (v := .tuple _) rfl) ?_
  first | refine lw_val rfl (run_extract (v := .pointer (some _)) rfl rfl) ?_ | refine lw_val rfl (run_extract (v := .pointer none) rfl rfl) ?_
  first | refine lw_val rfl (run_extract (v := errV ad _) rfl rfl) ?_ | refine lw_val rfl (run_extract (v := .nilIface) rfl rfl) ?_ | refine lw_val rfl (run_extract (v := eV ad _ _) rfl rfl) ?_ | refine lw_val rfl (run_extract (v := .iface _ (.pointer (some _))) rfl rfl) ?_
  first | refine lw_val rfl (run_assign (v := .pointer (some _)) rfl) ?_ | refine lw_val rfl (run_assign (v := .pointer none) rfl) ?_
  first | refine lw_val rfl (run_assign (v := errV ad _) rfl) ?_ | refine lw_val rfl (run_assign (v := .nilIface) rfl) ?_ | refine lw_val rfl (run_assign (v := eV ad _ _) rfl) ?_ | refine lw_val rfl (run_assign (v := .iface _ (.pointer (some _))) rfl) ?_
  refine lw_nil ?_
  refine cw_seq ?_
  refine cw_seq ?_
  refine cw_region ?_
  first | refine lw_val rfl (run_move (v := .pointer (some _)) rfl) ?_ | refine lw_val rfl (run_move (v := .pointer none) rfl) ?_
  refine lw_val rfl (run_eqpn Tryd.underlying45 rfl rfl) ?_
  first | refine lw_val rfl (run_move (v := .bool _) rfl) ?_
  refine lw_on rfl rfl rfl ?_
  first | refine lw_val rfl (run_move (v := errV ad _) rfl) ?_ | refine lw_val rfl (run_move (v := .nilIface) rfl) ?_ | refine lw_val rfl (run_move (v := eV ad _ _) rfl) ?_ | refine lw_val rfl (run_move (v := .iface _ (.pointer (some _))) rfl) ?_
  refine lw_on rfl rfl rfl ?_
  first | refine lw_val rfl (run_neerrn (ad := ad) rfl) ?_ | refine lw_val rfl (run_nenn rfl) ?_ | refine lw_val rfl (run_neE (ad := ad) rfl) ?_
  first | refine lw_val rfl (run_pickF (v := .bool _) rfl rfl rfl) ?_
  refine lw_nil ?_
  refine cw_iff rfl (rfl) ?_
  refine cw_skip ?_
  refine cw_seq ?_
  refine cw_region ?_
  refine lw_val rfl (run_build Tryd.underlying50 ze50 pl50 rfl) ?_
  refine lw_alloc hs rfl ze50 ?_
  clear hs
  intro b8 w hs
  try simp only [List.set_cons_succ, List.set_cons_zero] at hs
  first | refine lw_storeRow hs 0 rfl rfl rfl sz50 rfl rfl ?_ | refine lw_storeRow hs 1 rfl rfl rfl sz50 rfl rfl ?_ | refine lw_storeRow hs 2 rfl rfl rfl sz50 rfl rfl ?_ | refine lw_storeRow hs 3 rfl rfl rfl sz50 rfl rfl ?_ | refine lw_storeRow hs 4 rfl rfl rfl sz50 rfl rfl ?_ | refine lw_storeRow hs 5 rfl rfl rfl sz50 rfl rfl ?_ | refine lw_storeRow hs 6 rfl rfl rfl sz50 rfl rfl ?_ | refine lw_storeRow hs 7 rfl rfl rfl sz50 rfl rfl ?_ | refine lw_storeRow hs 8 rfl rfl rfl sz50 rfl rfl ?_ | refine lw_storeRow hs 9 rfl rfl rfl sz50 rfl rfl ?_ | refine lw_storeRow hs 10 rfl rfl rfl sz50 rfl rfl ?_ | refine lw_storeRow hs 11 rfl rfl rfl sz50 rfl rfl ?_ | refine lw_storeRow hs 12 rfl rfl rfl sz50 rfl rfl ?_ | refine lw_storeRow hs 13 rfl rfl rfl sz50 rfl rfl ?_
  clear hs
  intro w hs
  try simp only [List.set_cons_succ, List.set_cons_zero] at hs
  refine lw_nil ?_
  refine cw_seq ?_
  refine cw_seq ?_
  refine cw_region ?_
  first | refine lw_val rfl (run_move (v := .pointer (some _)) rfl) ?_ | refine lw_val rfl (run_move (v := .pointer none) rfl) ?_
  first | refine lw_val rfl (run_loadRow hs 0 rfl Tryd.underlying50 sz50 rfl) ?_ | refine lw_val rfl (run_loadRow hs 1 rfl Tryd.underlying50 sz50 rfl) ?_ | refine lw_val rfl (run_loadRow hs 2 rfl Tryd.underlying50 sz50 rfl) ?_ | refine lw_val rfl (run_loadRow hs 3 rfl Tryd.underlying50 sz50 rfl) ?_ | refine lw_val rfl (run_loadRow hs 4 rfl Tryd.underlying50 sz50 rfl) ?_ | refine lw_val rfl (run_loadRow hs 5 rfl Tryd.underlying50 sz50 rfl) ?_ | refine lw_val rfl (run_loadRow hs 6 rfl Tryd.underlying50 sz50 rfl) ?_ | refine lw_val rfl (run_loadRow hs 7 rfl Tryd.underlying50 sz50 rfl) ?_ | refine lw_val rfl (run_loadRow hs 8 rfl Tryd.underlying50 sz50 rfl) ?_ | refine lw_val rfl (run_loadRow hs 9 rfl Tryd.underlying50 sz50 rfl) ?_ | refine lw_val rfl (run_loadRow hs 10 rfl Tryd.underlying50 sz50 rfl) ?_ | refine lw_val rfl (run_loadRow hs 11 rfl Tryd.underlying50 sz50 rfl) ?_ | refine lw_val rfl (run_loadRow hs 12 rfl Tryd.underlying50 sz50 rfl) ?_ | refine lw_val rfl (run_loadRow hs 13 rfl Tryd.underlying50 sz50 rfl) ?_
  refine lw_call rfl en32 (jwrite_sl hE (d := Dk.empty 1000) (L := cells _ _ _ :: []) (show 0 < 900000 by decide) (hs.arr [1, 0] 2 (by decide)) i1 i2 i3 i4 hw1) ?_
  clear hs
  rintro _ w ⟨rfl, hs⟩
  obtain ⟨hok1, _⟩ := hs.openD
  have pt1 := hp1 hok1
  first | refine lw_val rfl (run_neerrn (ad := ad) rfl) ?_ | refine lw_val rfl (run_nenn rfl) ?_ | refine lw_val rfl (run_neE (ad := ad) rfl) ?_
  refine lw_nil ?_
  refine cw_iff rfl (rfl) ?_
  refine cw_skip ?_
  refine cw_seq ?_
  refine cw_region ?_
  first | refine lw_val rfl (run_loadRow hs 0 rfl Tryd.underlying50 sz50 rfl) ?_ | refine lw_val rfl (run_loadRow hs 1 rfl Tryd.underlying50 sz50 rfl) ?_ | refine lw_val rfl (run_loadRow hs 2 rfl Tryd.underlying50 sz50 rfl) ?_ | refine lw_val rfl (run_loadRow hs 3 rfl Tryd.underlying50 sz50 rfl) ?_ | refine lw_val rfl (run_loadRow hs 4 rfl Tryd.underlying50 sz50 rfl) ?_ | refine lw_val rfl (run_loadRow hs 5 rfl Tryd.underlying50 sz50 rfl) ?_ | refine lw_val rfl (run_loadRow hs 6 rfl Tryd.underlying50 sz50 rfl) ?_ | refine lw_val rfl (run_loadRow hs 7 rfl Tryd.underlying50 sz50 rfl) ?_ | refine lw_val rfl (run_loadRow hs 8 rfl Tryd.underlying50 sz50 rfl) ?_ | refine lw_val rfl (run_loadRow hs 9 rfl Tryd.underlying50 sz50 rfl) ?_ | refine lw_val rfl (run_loadRow hs 10 rfl Tryd.underlying50 sz50 rfl) ?_ | refine lw_val rfl (run_loadRow hs 11 rfl Tryd.underlying50 sz50 rfl) ?_ | refine lw_val rfl (run_loadRow hs 12 rfl Tryd.underlying50 sz50 rfl) ?_ | refine lw_val rfl (run_loadRow hs 13 rfl Tryd.underlying50 sz50 rfl) ?_
  refine lw_alloc hs rfl ze50 ?_
  clear hs
  intro b9 w hs
  try simp only [List.set_cons_succ, List.set_cons_zero] at hs
  first | refine lw_storeRow hs 0 rfl rfl rfl sz50 rfl rfl ?_ | refine lw_storeRow hs 1 rfl rfl rfl sz50 rfl rfl ?_ | refine lw_storeRow hs 2 rfl rfl rfl sz50 rfl rfl ?_ | refine lw_storeRow hs 3 rfl rfl rfl sz50 rfl rfl ?_ | refine lw_storeRow hs 4 rfl rfl rfl sz50 rfl rfl ?_ | refine lw_storeRow hs 5 rfl rfl rfl sz50 rfl rfl ?_ | refine lw_storeRow hs 6 rfl rfl rfl sz50 rfl rfl ?_ | refine lw_storeRow hs 7 rfl rfl rfl sz50 rfl rfl ?_ | refine lw_storeRow hs 8 rfl rfl rfl sz50 rfl rfl ?_ | refine lw_storeRow hs 9 rfl rfl rfl sz50 rfl rfl ?_ | refine lw_storeRow hs 10 rfl rfl rfl sz50 rfl rfl ?_ | refine lw_storeRow hs 11 rfl rfl rfl sz50 rfl rfl ?_ | refine lw_storeRow hs 12 rfl rfl rfl sz50 rfl rfl ?_ | refine lw_storeRow hs 13 rfl rfl rfl sz50 rfl rfl ?_
  clear hs
  intro w hs
  try simp only [List.set_cons_succ, List.set_cons_zero] at hs
  refine lw_nil ?_
  refine cw_seq ?_
  refine cw_seq ?_
  refine cw_region ?_
  first | refine lw_val rfl (run_move (v := .int .i64 _) rfl) ?_
  refine lw_val rfl (run_bits (v := .int .i64 (bits .and .i64 fl 3)) (by simp) rfl rfl rfl) ?_
  refine lw_nil ?_
  refine cw_block ?_
  refine cw_seq ?_
  refine cw_region ?_
  refine lw_val rfl (run_eqi rfl rfl) ?_
  first | refine lw_val rfl (run_assign (v := .bool _) rfl) ?_
  refine lw_nil ?_
  refine cw_if rfl ?_ ?_
  · intro h38
    have g38 := of_decide_eq_true h38
    refine cw_region ?_
    first | refine lw_val rfl (run_move (v := .int .i64 _) rfl) ?_
    first | refine lw_val rfl (run_fieldAddr (o' := 0) Tryd.underlying50 rfl sz3 rfl rfl rfl) ?_ | refine lw_val rfl (run_fieldAddr Tryd.underlying50 rfl sz3 rfl rfl rfl) ?_
    first | refine lw_store (v := .int .i64 _) hs 0 rfl sz3 rfl rfl rfl rfl ?_ | refine lw_store (v := .int .i64 _) hs 1 rfl sz3 rfl rfl rfl rfl ?_ | refine lw_store (v := .int .i64 _) hs 2 rfl sz3 rfl rfl rfl rfl ?_ | refine lw_store (v := .int .i64 _) hs 3 rfl sz3 rfl rfl rfl rfl ?_ | refine lw_store (v := .int .i64 _) hs 4 rfl sz3 rfl rfl rfl rfl ?_ | refine lw_store (v := .int .i64 _) hs 5 rfl sz3 rfl rfl rfl rfl ?_ | refine lw_store (v := .int .i64 _) hs 6 rfl sz3 rfl rfl rfl rfl ?_ | refine lw_store (v := .int .i64 _) hs 7 rfl sz3 rfl rfl rfl rfl ?_ | refine lw_store (v := .int .i64 _) hs 8 rfl sz3 rfl rfl rfl rfl ?_ | refine lw_store (v := .int .i64 _) hs 9 rfl sz3 rfl rfl rfl rfl ?_ | refine lw_store (v := .int .i64 _) hs 10 rfl sz3 rfl rfl rfl rfl ?_ | refine lw_store (v := .int .i64 _) hs 11 rfl sz3 rfl rfl rfl rfl ?_ | refine lw_store (v := .int .i64 _) hs 12 rfl sz3 rfl rfl rfl rfl ?_ | refine lw_store (v := .int .i64 _) hs 13 rfl sz3 rfl rfl rfl rfl ?_
    clear hs
    intro w hs
    try simp only [List.set_cons_succ, List.set_cons_zero] at hs
    refine lw_nil ?_
    refine cw_seq ?_
    rcases hal with ⟨hin, hl0, hl1, hl2, hl3⟩ | ⟨hin, hl0, hl1, hl2, hl3⟩
    · skip
      refine cw_region ?_
      first | refine lw_val rfl (run_move (v := .pointer (some _)) rfl) ?_ | refine lw_val rfl (run_move (v := .pointer none) rfl) ?_
      first | refine lw_val rfl (run_loadRow hs 0 rfl Tryd.underlying50 sz50 rfl) ?_ | refine lw_val rfl (run_loadRow hs 1 rfl Tryd.underlying50 sz50 rfl) ?_ | refine lw_val rfl (run_loadRow hs 2 rfl Tryd.underlying50 sz50 rfl) ?_ | refine lw_val rfl (run_loadRow hs 3 rfl Tryd.underlying50 sz50 rfl) ?_ | refine lw_val rfl (run_loadRow hs 4 rfl Tryd.underlying50 sz50 rfl) ?_ | refine lw_val rfl (run_loadRow hs 5 rfl Tryd.underlying50 sz50 rfl) ?_ | refine lw_val rfl (run_loadRow hs 6 rfl Tryd.underlying50 sz50 rfl) ?_ | refine lw_val rfl (run_loadRow hs 7 rfl Tryd.underlying50 sz50 rfl) ?_ | refine lw_val rfl (run_loadRow hs 8 rfl Tryd.underlying50 sz50 rfl) ?_ | refine lw_val rfl (run_loadRow hs 9 rfl Tryd.underlying50 sz50 rfl) ?_ | refine lw_val rfl (run_loadRow hs 10 rfl Tryd.underlying50 sz50 rfl) ?_ | refine lw_val rfl (run_loadRow hs 11 rfl Tryd.underlying50 sz50 rfl) ?_ | refine lw_val rfl (run_loadRow hs 12 rfl Tryd.underlying50 sz50 rfl) ?_ | refine lw_val rfl (run_loadRow hs 13 rfl Tryd.underlying50 sz50 rfl) ?_
      refine lw_call rfl en32 (jwrite_sl hE (d := e1) (L := cells _ _ _ :: cells _ _ _ :: []) (by omega) (hs.arr [1, 0, 2] 3 (by decide)) hn i2 i3 i4 (hno _ hl0)) ?_
      clear hs
      rintro _ w ⟨rfl, hs⟩
      first | refine lw_val rfl (run_assign (v := errV ad _) rfl) ?_ | refine lw_val rfl (run_assign (v := .nilIface) rfl) ?_ | refine lw_val rfl (run_assign (v := eV ad _ _) rfl) ?_ | refine lw_val rfl (run_assign (v := .iface _ (.pointer (some _))) rfl) ?_
      refine lw_nil ?_
      refine cw_seq ?_
      refine cw_region ?_
      first | refine lw_val rfl (run_move (v := .pointer (some _)) rfl) ?_ | refine lw_val rfl (run_move (v := .pointer none) rfl) ?_
      refine lw_call rfl en28 (jread_sl hE hs (j := (0, true, 1, 2, 3, 4)) (pt1.jread (upU _ _) (all_I (by decide)) (by decide))) ?_
      clear hs
      rintro _ w ⟨rfl, hs⟩
      first | refine lw_val rfl (run_move (v := .tuple _) rfl) ?_
      first | refine lw_val rfl (run_extract (v := .agg _) rfl rfl) ?_
      first | refine lw_val rfl (run_extract (v := .bool _) rfl rfl) ?_
      first | refine lw_val rfl (run_extract (v := errV ad _) rfl rfl) ?_ | refine lw_val rfl (run_extract (v := .nilIface) rfl rfl) ?_ | refine lw_val rfl (run_extract (v := eV ad _ _) rfl rfl) ?_ | refine lw_val rfl (run_extract (v := .iface _ (.pointer (some _))) rfl rfl) ?_
      refine lw_alloc hs rfl ze50 ?_
      clear hs
      intro b11 w hs
      try simp only [List.set_cons_succ, List.set_cons_zero] at hs
      first | refine lw_storeRow hs 0 rfl rfl rfl sz50 rfl rfl ?_ | refine lw_storeRow hs 1 rfl rfl rfl sz50 rfl rfl ?_ | refine lw_storeRow hs 2 rfl rfl rfl sz50 rfl rfl ?_ | refine lw_storeRow hs 3 rfl rfl rfl sz50 rfl rfl ?_ | refine lw_storeRow hs 4 rfl rfl rfl sz50 rfl rfl ?_ | refine lw_storeRow hs 5 rfl rfl rfl sz50 rfl rfl ?_ | refine lw_storeRow hs 6 rfl rfl rfl sz50 rfl rfl ?_ | refine lw_storeRow hs 7 rfl rfl rfl sz50 rfl rfl ?_ | refine lw_storeRow hs 8 rfl rfl rfl sz50 rfl rfl ?_ | refine lw_storeRow hs 9 rfl rfl rfl sz50 rfl rfl ?_ | refine lw_storeRow hs 10 rfl rfl rfl sz50 rfl rfl ?_ | refine lw_storeRow hs 11 rfl rfl rfl sz50 rfl rfl ?_ | refine lw_storeRow hs 12 rfl rfl rfl sz50 rfl rfl ?_ | refine lw_storeRow hs 13 rfl rfl rfl sz50 rfl rfl ?_
      clear hs
      intro w hs
      try simp only [List.set_cons_succ, List.set_cons_zero] at hs
      first | refine lw_val rfl (run_assign (v := .bool _) rfl) ?_
      first | refine lw_val rfl (run_assign (v := errV ad _) rfl) ?_ | refine lw_val rfl (run_assign (v := .nilIface) rfl) ?_ | refine lw_val rfl (run_assign (v := eV ad _ _) rfl) ?_ | refine lw_val rfl (run_assign (v := .iface _ (.pointer (some _))) rfl) ?_
      refine lw_nil ?_
      refine cw_seq ?_
      refine cw_seq ?_
      refine cw_region ?_
      first | refine lw_val rfl (run_move (v := .int .i64 _) rfl) ?_
      refine lw_call rfl en33 (right_sl hs n) ?_
      clear hs
      rintro _ w ⟨rfl, hs⟩
      refine lw_val rfl (run_not rfl) ?_
      refine lw_nil ?_
      refine cw_ift rfl (not_t (hin)) ?_
      refine cw_seq ?_
      refine cw_region ?_
      first | refine lw_val rfl (run_move (v := .bool _) rfl) ?_
      first | refine lw_val rfl (run_move (v := .bool _) rfl) ?_
      refine lw_on rfl rfl (rfl) ?_
      first | refine lw_val rfl (run_move (v := errV ad _) rfl) ?_ | refine lw_val rfl (run_move (v := .nilIface) rfl) ?_ | refine lw_val rfl (run_move (v := eV ad _ _) rfl) ?_ | refine lw_val rfl (run_move (v := .iface _ (.pointer (some _))) rfl) ?_
      refine lw_on rfl rfl (rfl) ?_
      refine lw_call rfl en34 (isA_sl hA hs (d := 105) (by decide) 105) ?_
      clear hs
      rintro _ w ⟨rfl, hs⟩
      first | refine lw_val rfl (run_pickT (v := .bool _) rfl (rfl) rfl) ?_
      first | refine lw_val rfl (run_move (v := .bool _) rfl) ?_
      refine lw_on rfl rfl (rfl) ?_
      first | refine lw_val rfl (run_move (v := .bool _) rfl) ?_
      first | refine lw_val rfl (run_pickT (v := .bool _) rfl (rfl) rfl) ?_
      first | refine lw_val rfl (run_move (v := .bool _) rfl) ?_
      refine lw_on rfl rfl (rfl) ?_
      first | refine lw_val rfl (run_move (v := errV ad _) rfl) ?_ | refine lw_val rfl (run_move (v := .nilIface) rfl) ?_ | refine lw_val rfl (run_move (v := eV ad _ _) rfl) ?_ | refine lw_val rfl (run_move (v := .iface _ (.pointer (some _))) rfl) ?_
      refine lw_on rfl rfl (rfl) ?_
      first | refine lw_val rfl (run_eqerrn (ad := ad) rfl) ?_ | refine lw_val rfl (run_eqnn rfl) ?_ | refine lw_val rfl (run_eqE (ad := ad) rfl) ?_
      first | refine lw_val rfl (run_pickT (v := .bool _) rfl (rfl) rfl) ?_
      first | refine lw_val rfl (run_move (v := .bool _) rfl) ?_
      refine lw_on rfl rfl (rfl) ?_
      first | refine lw_val rfl (run_loadRow hs 0 rfl Tryd.underlying50 sz50 rfl) ?_ | refine lw_val rfl (run_loadRow hs 1 rfl Tryd.underlying50 sz50 rfl) ?_ | refine lw_val rfl (run_loadRow hs 2 rfl Tryd.underlying50 sz50 rfl) ?_ | refine lw_val rfl (run_loadRow hs 3 rfl Tryd.underlying50 sz50 rfl) ?_ | refine lw_val rfl (run_loadRow hs 4 rfl Tryd.underlying50 sz50 rfl) ?_ | refine lw_val rfl (run_loadRow hs 5 rfl Tryd.underlying50 sz50 rfl) ?_ | refine lw_val rfl (run_loadRow hs 6 rfl Tryd.underlying50 sz50 rfl) ?_ | refine lw_val rfl (run_loadRow hs 7 rfl Tryd.underlying50 sz50 rfl) ?_ | refine lw_val rfl (run_loadRow hs 8 rfl Tryd.underlying50 sz50 rfl) ?_ | refine lw_val rfl (run_loadRow hs 9 rfl Tryd.underlying50 sz50 rfl) ?_ | refine lw_val rfl (run_loadRow hs 10 rfl Tryd.underlying50 sz50 rfl) ?_ | refine lw_val rfl (run_loadRow hs 11 rfl Tryd.underlying50 sz50 rfl) ?_ | refine lw_val rfl (run_loadRow hs 12 rfl Tryd.underlying50 sz50 rfl) ?_ | refine lw_val rfl (run_loadRow hs 13 rfl Tryd.underlying50 sz50 rfl) ?_
      refine lw_on rfl rfl (rfl) ?_
      first | refine lw_val rfl (run_loadRow hs 0 rfl Tryd.underlying50 sz50 rfl) ?_ | refine lw_val rfl (run_loadRow hs 1 rfl Tryd.underlying50 sz50 rfl) ?_ | refine lw_val rfl (run_loadRow hs 2 rfl Tryd.underlying50 sz50 rfl) ?_ | refine lw_val rfl (run_loadRow hs 3 rfl Tryd.underlying50 sz50 rfl) ?_ | refine lw_val rfl (run_loadRow hs 4 rfl Tryd.underlying50 sz50 rfl) ?_ | refine lw_val rfl (run_loadRow hs 5 rfl Tryd.underlying50 sz50 rfl) ?_ | refine lw_val rfl (run_loadRow hs 6 rfl Tryd.underlying50 sz50 rfl) ?_ | refine lw_val rfl (run_loadRow hs 7 rfl Tryd.underlying50 sz50 rfl) ?_ | refine lw_val rfl (run_loadRow hs 8 rfl Tryd.underlying50 sz50 rfl) ?_ | refine lw_val rfl (run_loadRow hs 9 rfl Tryd.underlying50 sz50 rfl) ?_ | refine lw_val rfl (run_loadRow hs 10 rfl Tryd.underlying50 sz50 rfl) ?_ | refine lw_val rfl (run_loadRow hs 11 rfl Tryd.underlying50 sz50 rfl) ?_ | refine lw_val rfl (run_loadRow hs 12 rfl Tryd.underlying50 sz50 rfl) ?_ | refine lw_val rfl (run_loadRow hs 13 rfl Tryd.underlying50 sz50 rfl) ?_
      refine lw_on rfl rfl (rfl) ?_
      refine lw_call rfl en35 (same20_sl hs _ _ _ _ _ _ _ _) ?_
      clear hs
      rintro _ w ⟨rfl, hs⟩
      first | refine lw_val rfl (run_pickT (v := .bool _) rfl (rfl) rfl) ?_
      first | refine lw_val rfl (run_assign (v := .bool _) rfl) ?_
      refine lw_nil ?_
      refine cw_ret ?_
      refine res1 (v := .bool _) rfl rfl ?_
      exact ⟨_, rfl, ret_b (decide_eq_true rfl), hs.nil⟩
    · skip
      obtain ⟨k2, e2, hw2, hr2, hc2, hd2⟩ := pt1.jwrite (l := [n, 2, 3, 4]) rfl (by omega)
      obtain ⟨_, rfl, _, _, hp2⟩ := hd2.resolve_right (fun h => h.elim (fun h => h.2.2.2.1 ha1) (fun h => by rw [hl0] at h; cases h.1))
      refine cw_region ?_
      first | refine lw_val rfl (run_move (v := .pointer (some _)) rfl) ?_ | refine lw_val rfl (run_move (v := .pointer none) rfl) ?_
      first | refine lw_val rfl (run_loadRow hs 0 rfl Tryd.underlying50 sz50 rfl) ?_ | refine lw_val rfl (run_loadRow hs 1 rfl Tryd.underlying50 sz50 rfl) ?_ | refine lw_val rfl (run_loadRow hs 2 rfl Tryd.underlying50 sz50 rfl) ?_ | refine lw_val rfl (run_loadRow hs 3 rfl Tryd.underlying50 sz50 rfl) ?_ | refine lw_val rfl (run_loadRow hs 4 rfl Tryd.underlying50 sz50 rfl) ?_ | refine lw_val rfl (run_loadRow hs 5 rfl Tryd.underlying50 sz50 rfl) ?_ | refine lw_val rfl (run_loadRow hs 6 rfl Tryd.underlying50 sz50 rfl) ?_ | refine lw_val rfl (run_loadRow hs 7 rfl Tryd.underlying50 sz50 rfl) ?_ | refine lw_val rfl (run_loadRow hs 8 rfl Tryd.underlying50 sz50 rfl) ?_ | refine lw_val rfl (run_loadRow hs 9 rfl Tryd.underlying50 sz50 rfl) ?_ | refine lw_val rfl (run_loadRow hs 10 rfl Tryd.underlying50 sz50 rfl) ?_ | refine lw_val rfl (run_loadRow hs 11 rfl Tryd.underlying50 sz50 rfl) ?_ | refine lw_val rfl (run_loadRow hs 12 rfl Tryd.underlying50 sz50 rfl) ?_ | refine lw_val rfl (run_loadRow hs 13 rfl Tryd.underlying50 sz50 rfl) ?_
      refine lw_call rfl en32 (jwrite_sl hE (d := e1) (L := cells _ _ _ :: cells _ _ _ :: []) (by omega) (hs.arr [1, 0, 2] 3 (by decide)) hn i2 i3 i4 hw2) ?_
      clear hs
      rintro _ w ⟨rfl, hs⟩
      first | refine lw_val rfl (run_assign (v := errV ad _) rfl) ?_ | refine lw_val rfl (run_assign (v := .nilIface) rfl) ?_ | refine lw_val rfl (run_assign (v := eV ad _ _) rfl) ?_ | refine lw_val rfl (run_assign (v := .iface _ (.pointer (some _))) rfl) ?_
      refine lw_nil ?_
      refine cw_seq ?_
      obtain ⟨hok2, _⟩ := hs.openD
      have pt2 := hp2 hok2
      refine cw_region ?_
      first | refine lw_val rfl (run_move (v := .pointer (some _)) rfl) ?_ | refine lw_val rfl (run_move (v := .pointer none) rfl) ?_
      refine lw_call rfl en28 (jread_sl hE hs (j := (0, true, n, 2, 3, 4)) (pt2.jread (upU _ _) (all_I hl0) hl0)) ?_
      clear hs
      rintro _ w ⟨rfl, hs⟩
      first | refine lw_val rfl (run_move (v := .tuple _) rfl) ?_
      first | refine lw_val rfl (run_extract (v := .agg _) rfl rfl) ?_
      first | refine lw_val rfl (run_extract (v := .bool _) rfl rfl) ?_
      first | refine lw_val rfl (run_extract (v := errV ad _) rfl rfl) ?_ | refine lw_val rfl (run_extract (v := .nilIface) rfl rfl) ?_ | refine lw_val rfl (run_extract (v := eV ad _ _) rfl rfl) ?_ | refine lw_val rfl (run_extract (v := .iface _ (.pointer (some _))) rfl rfl) ?_
      refine lw_alloc hs rfl ze50 ?_
      clear hs
      intro b11 w hs
      try simp only [List.set_cons_succ, List.set_cons_zero] at hs
      first | refine lw_storeRow hs 0 rfl rfl rfl sz50 rfl rfl ?_ | refine lw_storeRow hs 1 rfl rfl rfl sz50 rfl rfl ?_ | refine lw_storeRow hs 2 rfl rfl rfl sz50 rfl rfl ?_ | refine lw_storeRow hs 3 rfl rfl rfl sz50 rfl rfl ?_ | refine lw_storeRow hs 4 rfl rfl rfl sz50 rfl rfl ?_ | refine lw_storeRow hs 5 rfl rfl rfl sz50 rfl rfl ?_ | refine lw_storeRow hs 6 rfl rfl rfl sz50 rfl rfl ?_ | refine lw_storeRow hs 7 rfl rfl rfl sz50 rfl rfl ?_ | refine lw_storeRow hs 8 rfl rfl rfl sz50 rfl rfl ?_ | refine lw_storeRow hs 9 rfl rfl rfl sz50 rfl rfl ?_ | refine lw_storeRow hs 10 rfl rfl rfl sz50 rfl rfl ?_ | refine lw_storeRow hs 11 rfl rfl rfl sz50 rfl rfl ?_ | refine lw_storeRow hs 12 rfl rfl rfl sz50 rfl rfl ?_ | refine lw_storeRow hs 13 rfl rfl rfl sz50 rfl rfl ?_
      clear hs
      intro w hs
      try simp only [List.set_cons_succ, List.set_cons_zero] at hs
      first | refine lw_val rfl (run_assign (v := .bool _) rfl) ?_
      first | refine lw_val rfl (run_assign (v := errV ad _) rfl) ?_ | refine lw_val rfl (run_assign (v := .nilIface) rfl) ?_ | refine lw_val rfl (run_assign (v := eV ad _ _) rfl) ?_ | refine lw_val rfl (run_assign (v := .iface _ (.pointer (some _))) rfl) ?_
      refine lw_nil ?_
      refine cw_seq ?_
      refine cw_seq ?_
      refine cw_region ?_
      first | refine lw_val rfl (run_move (v := .int .i64 _) rfl) ?_
      refine lw_call rfl en33 (right_sl hs n) ?_
      clear hs
      rintro _ w ⟨rfl, hs⟩
      refine lw_val rfl (run_not rfl) ?_
      refine lw_nil ?_
      refine cw_iff rfl (not_f (hin)) ?_
      refine cw_skip ?_
      refine cw_seq ?_
      refine cw_region ?_
      first | refine lw_val rfl (run_move (v := .bool _) rfl) ?_
      first | refine lw_val rfl (run_move (v := .bool _) rfl) ?_
      refine lw_on rfl rfl (rfl) ?_
      first | refine lw_val rfl (run_move (v := errV ad _) rfl) ?_ | refine lw_val rfl (run_move (v := .nilIface) rfl) ?_ | refine lw_val rfl (run_move (v := eV ad _ _) rfl) ?_ | refine lw_val rfl (run_move (v := .iface _ (.pointer (some _))) rfl) ?_
      refine lw_on rfl rfl (rfl) ?_
      first | refine lw_val rfl (run_eqerrn (ad := ad) rfl) ?_ | refine lw_val rfl (run_eqnn rfl) ?_ | refine lw_val rfl (run_eqE (ad := ad) rfl) ?_
      first | refine lw_val rfl (run_pickT (v := .bool _) rfl (rfl) rfl) ?_
      first | refine lw_val rfl (run_move (v := .bool _) rfl) ?_
      refine lw_on rfl rfl (rfl) ?_
      first | refine lw_val rfl (run_move (v := .bool _) rfl) ?_
      first | refine lw_val rfl (run_pickT (v := .bool _) rfl (rfl) rfl) ?_
      first | refine lw_val rfl (run_move (v := .bool _) rfl) ?_
      refine lw_on rfl rfl (rfl) ?_
      first | refine lw_val rfl (run_move (v := errV ad _) rfl) ?_ | refine lw_val rfl (run_move (v := .nilIface) rfl) ?_ | refine lw_val rfl (run_move (v := eV ad _ _) rfl) ?_ | refine lw_val rfl (run_move (v := .iface _ (.pointer (some _))) rfl) ?_
      refine lw_on rfl rfl (rfl) ?_
      first | refine lw_val rfl (run_eqerrn (ad := ad) rfl) ?_ | refine lw_val rfl (run_eqnn rfl) ?_ | refine lw_val rfl (run_eqE (ad := ad) rfl) ?_
      first | refine lw_val rfl (run_pickT (v := .bool _) rfl (rfl) rfl) ?_
      first | refine lw_val rfl (run_move (v := .bool _) rfl) ?_
      refine lw_on rfl rfl (rfl) ?_
      first | refine lw_val rfl (run_loadRow hs 0 rfl Tryd.underlying50 sz50 rfl) ?_ | refine lw_val rfl (run_loadRow hs 1 rfl Tryd.underlying50 sz50 rfl) ?_ | refine lw_val rfl (run_loadRow hs 2 rfl Tryd.underlying50 sz50 rfl) ?_ | refine lw_val rfl (run_loadRow hs 3 rfl Tryd.underlying50 sz50 rfl) ?_ | refine lw_val rfl (run_loadRow hs 4 rfl Tryd.underlying50 sz50 rfl) ?_ | refine lw_val rfl (run_loadRow hs 5 rfl Tryd.underlying50 sz50 rfl) ?_ | refine lw_val rfl (run_loadRow hs 6 rfl Tryd.underlying50 sz50 rfl) ?_ | refine lw_val rfl (run_loadRow hs 7 rfl Tryd.underlying50 sz50 rfl) ?_ | refine lw_val rfl (run_loadRow hs 8 rfl Tryd.underlying50 sz50 rfl) ?_ | refine lw_val rfl (run_loadRow hs 9 rfl Tryd.underlying50 sz50 rfl) ?_ | refine lw_val rfl (run_loadRow hs 10 rfl Tryd.underlying50 sz50 rfl) ?_ | refine lw_val rfl (run_loadRow hs 11 rfl Tryd.underlying50 sz50 rfl) ?_ | refine lw_val rfl (run_loadRow hs 12 rfl Tryd.underlying50 sz50 rfl) ?_ | refine lw_val rfl (run_loadRow hs 13 rfl Tryd.underlying50 sz50 rfl) ?_
      refine lw_on rfl rfl (rfl) ?_
      first | refine lw_val rfl (run_loadRow hs 0 rfl Tryd.underlying50 sz50 rfl) ?_ | refine lw_val rfl (run_loadRow hs 1 rfl Tryd.underlying50 sz50 rfl) ?_ | refine lw_val rfl (run_loadRow hs 2 rfl Tryd.underlying50 sz50 rfl) ?_ | refine lw_val rfl (run_loadRow hs 3 rfl Tryd.underlying50 sz50 rfl) ?_ | refine lw_val rfl (run_loadRow hs 4 rfl Tryd.underlying50 sz50 rfl) ?_ | refine lw_val rfl (run_loadRow hs 5 rfl Tryd.underlying50 sz50 rfl) ?_ | refine lw_val rfl (run_loadRow hs 6 rfl Tryd.underlying50 sz50 rfl) ?_ | refine lw_val rfl (run_loadRow hs 7 rfl Tryd.underlying50 sz50 rfl) ?_ | refine lw_val rfl (run_loadRow hs 8 rfl Tryd.underlying50 sz50 rfl) ?_ | refine lw_val rfl (run_loadRow hs 9 rfl Tryd.underlying50 sz50 rfl) ?_ | refine lw_val rfl (run_loadRow hs 10 rfl Tryd.underlying50 sz50 rfl) ?_ | refine lw_val rfl (run_loadRow hs 11 rfl Tryd.underlying50 sz50 rfl) ?_ | refine lw_val rfl (run_loadRow hs 12 rfl Tryd.underlying50 sz50 rfl) ?_ | refine lw_val rfl (run_loadRow hs 13 rfl Tryd.underlying50 sz50 rfl) ?_
      refine lw_on rfl rfl (rfl) ?_
      refine lw_call rfl en35 (same20_sl hs _ _ _ _ _ _ _ _) ?_
      clear hs
      rintro _ w ⟨rfl, hs⟩
      first | refine lw_val rfl (run_pickT (v := .bool _) rfl (rfl) rfl) ?_
      first | refine lw_val rfl (run_assign (v := .bool _) rfl) ?_
      refine lw_nil ?_
      refine cw_ret ?_
      refine res1 (v := .bool _) rfl rfl ?_
      exact ⟨_, rfl, ret_b (decide_eq_true rfl), hs.nil⟩
  · intro h38
    have g38 := of_decide_eq_false h38
    refine cw_seq ?_
    refine cw_region ?_
    refine lw_val rfl (run_eqi rfl rfl) ?_
    first | refine lw_val rfl (run_assign (v := .bool _) rfl) ?_
    refine lw_nil ?_
    refine cw_if rfl ?_ ?_
    · intro h42
      have g42 := of_decide_eq_true h42
      refine cw_region ?_
      first | refine lw_val rfl (run_move (v := .int .i64 _) rfl) ?_
      first | refine lw_val rfl (run_fieldAddr (o' := 1) Tryd.underlying50 rfl sz3 rfl rfl rfl) ?_ | refine lw_val rfl (run_fieldAddr Tryd.underlying50 rfl sz3 rfl rfl rfl) ?_
      first | refine lw_store (v := .int .i64 _) hs 0 rfl sz3 rfl rfl rfl rfl ?_ | refine lw_store (v := .int .i64 _) hs 1 rfl sz3 rfl rfl rfl rfl ?_ | refine lw_store (v := .int .i64 _) hs 2 rfl sz3 rfl rfl rfl rfl ?_ | refine lw_store (v := .int .i64 _) hs 3 rfl sz3 rfl rfl rfl rfl ?_ | refine lw_store (v := .int .i64 _) hs 4 rfl sz3 rfl rfl rfl rfl ?_ | refine lw_store (v := .int .i64 _) hs 5 rfl sz3 rfl rfl rfl rfl ?_ | refine lw_store (v := .int .i64 _) hs 6 rfl sz3 rfl rfl rfl rfl ?_ | refine lw_store (v := .int .i64 _) hs 7 rfl sz3 rfl rfl rfl rfl ?_ | refine lw_store (v := .int .i64 _) hs 8 rfl sz3 rfl rfl rfl rfl ?_ | refine lw_store (v := .int .i64 _) hs 9 rfl sz3 rfl rfl rfl rfl ?_ | refine lw_store (v := .int .i64 _) hs 10 rfl sz3 rfl rfl rfl rfl ?_ | refine lw_store (v := .int .i64 _) hs 11 rfl sz3 rfl rfl rfl rfl ?_ | refine lw_store (v := .int .i64 _) hs 12 rfl sz3 rfl rfl rfl rfl ?_ | refine lw_store (v := .int .i64 _) hs 13 rfl sz3 rfl rfl rfl rfl ?_
      clear hs
      intro w hs
      try simp only [List.set_cons_succ, List.set_cons_zero] at hs
      refine lw_nil ?_
      refine cw_seq ?_
      rcases hal with ⟨hin, hl0, hl1, hl2, hl3⟩ | ⟨hin, hl0, hl1, hl2, hl3⟩
      · skip
        refine cw_region ?_
        first | refine lw_val rfl (run_move (v := .pointer (some _)) rfl) ?_ | refine lw_val rfl (run_move (v := .pointer none) rfl) ?_
        first | refine lw_val rfl (run_loadRow hs 0 rfl Tryd.underlying50 sz50 rfl) ?_ | refine lw_val rfl (run_loadRow hs 1 rfl Tryd.underlying50 sz50 rfl) ?_ | refine lw_val rfl (run_loadRow hs 2 rfl Tryd.underlying50 sz50 rfl) ?_ | refine lw_val rfl (run_loadRow hs 3 rfl Tryd.underlying50 sz50 rfl) ?_ | refine lw_val rfl (run_loadRow hs 4 rfl Tryd.underlying50 sz50 rfl) ?_ | refine lw_val rfl (run_loadRow hs 5 rfl Tryd.underlying50 sz50 rfl) ?_ | refine lw_val rfl (run_loadRow hs 6 rfl Tryd.underlying50 sz50 rfl) ?_ | refine lw_val rfl (run_loadRow hs 7 rfl Tryd.underlying50 sz50 rfl) ?_ | refine lw_val rfl (run_loadRow hs 8 rfl Tryd.underlying50 sz50 rfl) ?_ | refine lw_val rfl (run_loadRow hs 9 rfl Tryd.underlying50 sz50 rfl) ?_ | refine lw_val rfl (run_loadRow hs 10 rfl Tryd.underlying50 sz50 rfl) ?_ | refine lw_val rfl (run_loadRow hs 11 rfl Tryd.underlying50 sz50 rfl) ?_ | refine lw_val rfl (run_loadRow hs 12 rfl Tryd.underlying50 sz50 rfl) ?_ | refine lw_val rfl (run_loadRow hs 13 rfl Tryd.underlying50 sz50 rfl) ?_
        refine lw_call rfl en32 (jwrite_sl hE (d := e1) (L := cells _ _ _ :: cells _ _ _ :: []) (by omega) (hs.arr [1, 0, 2] 3 (by decide)) i1 hn i3 i4 (hno _ hl1)) ?_
        clear hs
        rintro _ w ⟨rfl, hs⟩
        first | refine lw_val rfl (run_assign (v := errV ad _) rfl) ?_ | refine lw_val rfl (run_assign (v := .nilIface) rfl) ?_ | refine lw_val rfl (run_assign (v := eV ad _ _) rfl) ?_ | refine lw_val rfl (run_assign (v := .iface _ (.pointer (some _))) rfl) ?_
        refine lw_nil ?_
        refine cw_seq ?_
        refine cw_region ?_
        first | refine lw_val rfl (run_move (v := .pointer (some _)) rfl) ?_ | refine lw_val rfl (run_move (v := .pointer none) rfl) ?_
        refine lw_call rfl en28 (jread_sl hE hs (j := (0, true, 1, 2, 3, 4)) (pt1.jread (upU _ _) (all_I (by decide)) (by decide))) ?_
        clear hs
        rintro _ w ⟨rfl, hs⟩
        first | refine lw_val rfl (run_move (v := .tuple _) rfl) ?_
        first | refine lw_val rfl (run_extract (v := .agg _) rfl rfl) ?_
        first | refine lw_val rfl (run_extract (v := .bool _) rfl rfl) ?_
        first | refine lw_val rfl (run_extract (v := errV ad _) rfl rfl) ?_ | refine lw_val rfl (run_extract (v := .nilIface) rfl rfl) ?_ | refine lw_val rfl (run_extract (v := eV ad _ _) rfl rfl) ?_ | refine lw_val rfl (run_extract (v := .iface _ (.pointer (some _))) rfl rfl) ?_
        refine lw_alloc hs rfl ze50 ?_
        clear hs
        intro b11 w hs
        try simp only [List.set_cons_succ, List.set_cons_zero] at hs
        first | refine lw_storeRow hs 0 rfl rfl rfl sz50 rfl rfl ?_ | refine lw_storeRow hs 1 rfl rfl rfl sz50 rfl rfl ?_ | refine lw_storeRow hs 2 rfl rfl rfl sz50 rfl rfl ?_ | refine lw_storeRow hs 3 rfl rfl rfl sz50 rfl rfl ?_ | refine lw_storeRow hs 4 rfl rfl rfl sz50 rfl rfl ?_ | refine lw_storeRow hs 5 rfl rfl rfl sz50 rfl rfl ?_ | refine lw_storeRow hs 6 rfl rfl rfl sz50 rfl rfl ?_ | refine lw_storeRow hs 7 rfl rfl rfl sz50 rfl rfl ?_ | refine lw_storeRow hs 8 rfl rfl rfl sz50 rfl rfl ?_ | refine lw_storeRow hs 9 rfl rfl rfl sz50 rfl rfl ?_ | refine lw_storeRow hs 10 rfl rfl rfl sz50 rfl rfl ?_ | refine lw_storeRow hs 11 rfl rfl rfl sz50 rfl rfl ?_ | refine lw_storeRow hs 12 rfl rfl rfl sz50 rfl rfl ?_ | refine lw_storeRow hs 13 rfl rfl rfl sz50 rfl rfl ?_
        clear hs
        intro w hs
        try simp only [List.set_cons_succ, List.set_cons_zero] at hs
        first | refine lw_val rfl (run_assign (v := .bool _) rfl) ?_
        first | refine lw_val rfl (run_assign (v := errV ad _) rfl) ?_ | refine lw_val rfl (run_assign (v := .nilIface) rfl) ?_ | refine lw_val rfl (run_assign (v := eV ad _ _) rfl) ?_ | refine lw_val rfl (run_assign (v := .iface _ (.pointer (some _))) rfl) ?_
        refine lw_nil ?_
        refine cw_seq ?_
        refine cw_seq ?_
        refine cw_region ?_
        first | refine lw_val rfl (run_move (v := .int .i64 _) rfl) ?_
        refine lw_call rfl en33 (right_sl hs n) ?_
        clear hs
        rintro _ w ⟨rfl, hs⟩
        refine lw_val rfl (run_not rfl) ?_
        refine lw_nil ?_
        refine cw_ift rfl (not_t (hin)) ?_
        refine cw_seq ?_
        refine cw_region ?_
        first | refine lw_val rfl (run_move (v := .bool _) rfl) ?_
        first | refine lw_val rfl (run_move (v := .bool _) rfl) ?_
        refine lw_on rfl rfl (rfl) ?_
        first | refine lw_val rfl (run_move (v := errV ad _) rfl) ?_ | refine lw_val rfl (run_move (v := .nilIface) rfl) ?_ | refine lw_val rfl (run_move (v := eV ad _ _) rfl) ?_ | refine lw_val rfl (run_move (v := .iface _ (.pointer (some _))) rfl) ?_
        refine lw_on rfl rfl (rfl) ?_
        refine lw_call rfl en34 (isA_sl hA hs (d := 105) (by decide) 105) ?_
        clear hs
        rintro _ w ⟨rfl, hs⟩
        first | refine lw_val rfl (run_pickT (v := .bool _) rfl (rfl) rfl) ?_
        first | refine lw_val rfl (run_move (v := .bool _) rfl) ?_
        refine lw_on rfl rfl (rfl) ?_
        first | refine lw_val rfl (run_move (v := .bool _) rfl) ?_
        first | refine lw_val rfl (run_pickT (v := .bool _) rfl (rfl) rfl) ?_
        first | refine lw_val rfl (run_move (v := .bool _) rfl) ?_
        refine lw_on rfl rfl (rfl) ?_
        first | refine lw_val rfl (run_move (v := errV ad _) rfl) ?_ | refine lw_val rfl (run_move (v := .nilIface) rfl) ?_ | refine lw_val rfl (run_move (v := eV ad _ _) rfl) ?_ | refine lw_val rfl (run_move (v := .iface _ (.pointer (some _))) rfl) ?_
        refine lw_on rfl rfl (rfl) ?_
        first | refine lw_val rfl (run_eqerrn (ad := ad) rfl) ?_ | refine lw_val rfl (run_eqnn rfl) ?_ | refine lw_val rfl (run_eqE (ad := ad) rfl) ?_
        first | refine lw_val rfl (run_pickT (v := .bool _) rfl (rfl) rfl) ?_
        first | refine lw_val rfl (run_move (v := .bool _) rfl) ?_
        refine lw_on rfl rfl (rfl) ?_
        first | refine lw_val rfl (run_loadRow hs 0 rfl Tryd.underlying50 sz50 rfl) ?_ | refine lw_val rfl (run_loadRow hs 1 rfl Tryd.underlying50 sz50 rfl) ?_ | refine lw_val rfl (run_loadRow hs 2 rfl Tryd.underlying50 sz50 rfl) ?_ | refine lw_val rfl (run_loadRow hs 3 rfl Tryd.underlying50 sz50 rfl) ?_ | refine lw_val rfl (run_loadRow hs 4 rfl Tryd.underlying50 sz50 rfl) ?_ | refine lw_val rfl (run_loadRow hs 5 rfl Tryd.underlying50 sz50 rfl) ?_ | refine lw_val rfl (run_loadRow hs 6 rfl Tryd.underlying50 sz50 rfl) ?_ | refine lw_val rfl (run_loadRow hs 7 rfl Tryd.underlying50 sz50 rfl) ?_ | refine lw_val rfl (run_loadRow hs 8 rfl Tryd.underlying50 sz50 rfl) ?_ | refine lw_val rfl (run_loadRow hs 9 rfl Tryd.underlying50 sz50 rfl) ?_ | refine lw_val rfl (run_loadRow hs 10 rfl Tryd.underlying50 sz50 rfl) ?_ | refine lw_val rfl (run_loadRow hs 11 rfl Tryd.underlying50 sz50 rfl) ?_ | refine lw_val rfl (run_loadRow hs 12 rfl Tryd.underlying50 sz50 rfl) ?_ | refine lw_val rfl (run_loadRow hs 13 rfl Tryd.underlying50 sz50 rfl) ?_
        refine lw_on rfl rfl (rfl) ?_
        first | refine lw_val rfl (run_loadRow hs 0 rfl Tryd.underlying50 sz50 rfl) ?_ | refine lw_val rfl (run_loadRow hs 1 rfl Tryd.underlying50 sz50 rfl) ?_ | refine lw_val rfl (run_loadRow hs 2 rfl Tryd.underlying50 sz50 rfl) ?_ | refine lw_val rfl (run_loadRow hs 3 rfl Tryd.underlying50 sz50 rfl) ?_ | refine lw_val rfl (run_loadRow hs 4 rfl Tryd.underlying50 sz50 rfl) ?_ | refine lw_val rfl (run_loadRow hs 5 rfl Tryd.underlying50 sz50 rfl) ?_ | refine lw_val rfl (run_loadRow hs 6 rfl Tryd.underlying50 sz50 rfl) ?_ | refine lw_val rfl (run_loadRow hs 7 rfl Tryd.underlying50 sz50 rfl) ?_ | refine lw_val rfl (run_loadRow hs 8 rfl Tryd.underlying50 sz50 rfl) ?_ | refine lw_val rfl (run_loadRow hs 9 rfl Tryd.underlying50 sz50 rfl) ?_ | refine lw_val rfl (run_loadRow hs 10 rfl Tryd.underlying50 sz50 rfl) ?_ | refine lw_val rfl (run_loadRow hs 11 rfl Tryd.underlying50 sz50 rfl) ?_ | refine lw_val rfl (run_loadRow hs 12 rfl Tryd.underlying50 sz50 rfl) ?_ | refine lw_val rfl (run_loadRow hs 13 rfl Tryd.underlying50 sz50 rfl) ?_
        refine lw_on rfl rfl (rfl) ?_
        refine lw_call rfl en35 (same20_sl hs _ _ _ _ _ _ _ _) ?_
        clear hs
        rintro _ w ⟨rfl, hs⟩
        first | refine lw_val rfl (run_pickT (v := .bool _) rfl (rfl) rfl) ?_
        first | refine lw_val rfl (run_assign (v := .bool _) rfl) ?_
        refine lw_nil ?_
        refine cw_ret ?_
        refine res1 (v := .bool _) rfl rfl ?_
        exact ⟨_, rfl, ret_b (decide_eq_true rfl), hs.nil⟩
      · skip
        obtain ⟨k2, e2, hw2, hr2, hc2, hd2⟩ := pt1.jwrite (l := [1, n, 3, 4]) rfl (by omega)
        obtain ⟨_, rfl, _, _, hp2⟩ := hd2.resolve_right (fun h => h.elim (fun h => h.2.2.2.1 ha1) (fun h => by rw [hl1] at h; cases h.1))
        refine cw_region ?_
        first | refine lw_val rfl (run_move (v := .pointer (some _)) rfl) ?_ | refine lw_val rfl (run_move (v := .pointer none) rfl) ?_
        first | refine lw_val rfl (run_loadRow hs 0 rfl Tryd.underlying50 sz50 rfl) ?_ | refine lw_val rfl (run_loadRow hs 1 rfl Tryd.underlying50 sz50 rfl) ?_ | refine lw_val rfl (run_loadRow hs 2 rfl Tryd.underlying50 sz50 rfl) ?_ | refine lw_val rfl (run_loadRow hs 3 rfl Tryd.underlying50 sz50 rfl) ?_ | refine lw_val rfl (run_loadRow hs 4 rfl Tryd.underlying50 sz50 rfl) ?_ | refine lw_val rfl (run_loadRow hs 5 rfl Tryd.underlying50 sz50 rfl) ?_ | refine lw_val rfl (run_loadRow hs 6 rfl Tryd.underlying50 sz50 rfl) ?_ | refine lw_val rfl (run_loadRow hs 7 rfl Tryd.underlying50 sz50 rfl) ?_ | refine lw_val rfl (run_loadRow hs 8 rfl Tryd.underlying50 sz50 rfl) ?_ | refine lw_val rfl (run_loadRow hs 9 rfl Tryd.underlying50 sz50 rfl) ?_ | refine lw_val rfl (run_loadRow hs 10 rfl Tryd.underlying50 sz50 rfl) ?_ | refine lw_val rfl (run_loadRow hs 11 rfl Tryd.underlying50 sz50 rfl) ?_ | refine lw_val rfl (run_loadRow hs 12 rfl Tryd.underlying50 sz50 rfl) ?_ | refine lw_val rfl (run_loadRow hs 13 rfl Tryd.underlying50 sz50 rfl) ?_
        refine lw_call rfl en32 (jwrite_sl hE (d := e1) (L := cells _ _ _ :: cells _ _ _ :: []) (by omega) (hs.arr [1, 0, 2] 3 (by decide)) i1 hn i3 i4 hw2) ?_
        clear hs
        rintro _ w ⟨rfl, hs⟩
        first | refine lw_val rfl (run_assign (v := errV ad _) rfl) ?_ | refine lw_val rfl (run_assign (v := .nilIface) rfl) ?_ | refine lw_val rfl (run_assign (v := eV ad _ _) rfl) ?_ | refine lw_val rfl (run_assign (v := .iface _ (.pointer (some _))) rfl) ?_
        refine lw_nil ?_
        refine cw_seq ?_
        obtain ⟨hok2, _⟩ := hs.openD
        have pt2 := hp2 hok2
        refine cw_region ?_
        first | refine lw_val rfl (run_move (v := .pointer (some _)) rfl) ?_ | refine lw_val rfl (run_move (v := .pointer none) rfl) ?_
        refine lw_call rfl en28 (jread_sl hE hs (j := (0, true, 1, n, 3, 4)) (pt2.jread (upU _ _) (all_I hl1) hl1)) ?_
        clear hs
        rintro _ w ⟨rfl, hs⟩
        first | refine lw_val rfl (run_move (v := .tuple _) rfl) ?_
        first | refine lw_val rfl (run_extract (v := .agg _) rfl rfl) ?_
        first | refine lw_val rfl (run_extract (v := .bool _) rfl rfl) ?_
        first | refine lw_val rfl (run_extract (v := errV ad _) rfl rfl) ?_ | refine lw_val rfl (run_extract (v := .nilIface) rfl rfl) ?_ | refine lw_val rfl (run_extract (v := eV ad _ _) rfl rfl) ?_ | refine lw_val rfl (run_extract (v := .iface _ (.pointer (some _))) rfl rfl) ?_
        refine lw_alloc hs rfl ze50 ?_
        clear hs
        intro b11 w hs
        try simp only [List.set_cons_succ, List.set_cons_zero] at hs
        first | refine lw_storeRow hs 0 rfl rfl rfl sz50 rfl rfl ?_ | refine lw_storeRow hs 1 rfl rfl rfl sz50 rfl rfl ?_ | refine lw_storeRow hs 2 rfl rfl rfl sz50 rfl rfl ?_ | refine lw_storeRow hs 3 rfl rfl rfl sz50 rfl rfl ?_ | refine lw_storeRow hs 4 rfl rfl rfl sz50 rfl rfl ?_ | refine lw_storeRow hs 5 rfl rfl rfl sz50 rfl rfl ?_ | refine lw_storeRow hs 6 rfl rfl rfl sz50 rfl rfl ?_ | refine lw_storeRow hs 7 rfl rfl rfl sz50 rfl rfl ?_ | refine lw_storeRow hs 8 rfl rfl rfl sz50 rfl rfl ?_ | refine lw_storeRow hs 9 rfl rfl rfl sz50 rfl rfl ?_ | refine lw_storeRow hs 10 rfl rfl rfl sz50 rfl rfl ?_ | refine lw_storeRow hs 11 rfl rfl rfl sz50 rfl rfl ?_ | refine lw_storeRow hs 12 rfl rfl rfl sz50 rfl rfl ?_ | refine lw_storeRow hs 13 rfl rfl rfl sz50 rfl rfl ?_
        clear hs
        intro w hs
        try simp only [List.set_cons_succ, List.set_cons_zero] at hs
        first | refine lw_val rfl (run_assign (v := .bool _) rfl) ?_
        first | refine lw_val rfl (run_assign (v := errV ad _) rfl) ?_ | refine lw_val rfl (run_assign (v := .nilIface) rfl) ?_ | refine lw_val rfl (run_assign (v := eV ad _ _) rfl) ?_ | refine lw_val rfl (run_assign (v := .iface _ (.pointer (some _))) rfl) ?_
        refine lw_nil ?_
        refine cw_seq ?_
        refine cw_seq ?_
        refine cw_region ?_
        first | refine lw_val rfl (run_move (v := .int .i64 _) rfl) ?_
        refine lw_call rfl en33 (right_sl hs n) ?_
        clear hs
        rintro _ w ⟨rfl, hs⟩
        refine lw_val rfl (run_not rfl) ?_
        refine lw_nil ?_
        refine cw_iff rfl (not_f (hin)) ?_
        refine cw_skip ?_
        refine cw_seq ?_
        refine cw_region ?_
        first | refine lw_val rfl (run_move (v := .bool _) rfl) ?_
        first | refine lw_val rfl (run_move (v := .bool _) rfl) ?_
        refine lw_on rfl rfl (rfl) ?_
        first | refine lw_val rfl (run_move (v := errV ad _) rfl) ?_ | refine lw_val rfl (run_move (v := .nilIface) rfl) ?_ | refine lw_val rfl (run_move (v := eV ad _ _) rfl) ?_ | refine lw_val rfl (run_move (v := .iface _ (.pointer (some _))) rfl) ?_
        refine lw_on rfl rfl (rfl) ?_
        first | refine lw_val rfl (run_eqerrn (ad := ad) rfl) ?_ | refine lw_val rfl (run_eqnn rfl) ?_ | refine lw_val rfl (run_eqE (ad := ad) rfl) ?_
        first | refine lw_val rfl (run_pickT (v := .bool _) rfl (rfl) rfl) ?_
        first | refine lw_val rfl (run_move (v := .bool _) rfl) ?_
        refine lw_on rfl rfl (rfl) ?_
        first | refine lw_val rfl (run_move (v := .bool _) rfl) ?_
        first | refine lw_val rfl (run_pickT (v := .bool _) rfl (rfl) rfl) ?_
        first | refine lw_val rfl (run_move (v := .bool _) rfl) ?_
        refine lw_on rfl rfl (rfl) ?_
        first | refine lw_val rfl (run_move (v := errV ad _) rfl) ?_ | refine lw_val rfl (run_move (v := .nilIface) rfl) ?_ | refine lw_val rfl (run_move (v := eV ad _ _) rfl) ?_ | refine lw_val rfl (run_move (v := .iface _ (.pointer (some _))) rfl) ?_
        refine lw_on rfl rfl (rfl) ?_
        first | refine lw_val rfl (run_eqerrn (ad := ad) rfl) ?_ | refine lw_val rfl (run_eqnn rfl) ?_ | refine lw_val rfl (run_eqE (ad := ad) rfl) ?_
        first | refine lw_val rfl (run_pickT (v := .bool _) rfl (rfl) rfl) ?_
        first | refine lw_val rfl (run_move (v := .bool _) rfl) ?_
        refine lw_on rfl rfl (rfl) ?_
        first | refine lw_val rfl (run_loadRow hs 0 rfl Tryd.underlying50 sz50 rfl) ?_ | refine lw_val rfl (run_loadRow hs 1 rfl Tryd.underlying50 sz50 rfl) ?_ | refine lw_val rfl (run_loadRow hs 2 rfl Tryd.underlying50 sz50 rfl) ?_ | refine lw_val rfl (run_loadRow hs 3 rfl Tryd.underlying50 sz50 rfl) ?_ | refine lw_val rfl (run_loadRow hs 4 rfl Tryd.underlying50 sz50 rfl) ?_ | refine lw_val rfl (run_loadRow hs 5 rfl Tryd.underlying50 sz50 rfl) ?_ | refine lw_val rfl (run_loadRow hs 6 rfl Tryd.underlying50 sz50 rfl) ?_ | refine lw_val rfl (run_loadRow hs 7 rfl Tryd.underlying50 sz50 rfl) ?_ | refine lw_val rfl (run_loadRow hs 8 rfl Tryd.underlying50 sz50 rfl) ?_ | refine lw_val rfl (run_loadRow hs 9 rfl Tryd.underlying50 sz50 rfl) ?_ | refine lw_val rfl (run_loadRow hs 10 rfl Tryd.underlying50 sz50 rfl) ?_ | refine lw_val rfl (run_loadRow hs 11 rfl Tryd.underlying50 sz50 rfl) ?_ | refine lw_val rfl (run_loadRow hs 12 rfl Tryd.underlying50 sz50 rfl) ?_ | refine lw_val rfl (run_loadRow hs 13 rfl Tryd.underlying50 sz50 rfl) ?_
        refine lw_on rfl rfl (rfl) ?_
        first | refine lw_val rfl (run_loadRow hs 0 rfl Tryd.underlying50 sz50 rfl) ?_ | refine lw_val rfl (run_loadRow hs 1 rfl Tryd.underlying50 sz50 rfl) ?_ | refine lw_val rfl (run_loadRow hs 2 rfl Tryd.underlying50 sz50 rfl) ?_ | refine lw_val rfl (run_loadRow hs 3 rfl Tryd.underlying50 sz50 rfl) ?_ | refine lw_val rfl (run_loadRow hs 4 rfl Tryd.underlying50 sz50 rfl) ?_ | refine lw_val rfl (run_loadRow hs 5 rfl Tryd.underlying50 sz50 rfl) ?_ | refine lw_val rfl (run_loadRow hs 6 rfl Tryd.underlying50 sz50 rfl) ?_ | refine lw_val rfl (run_loadRow hs 7 rfl Tryd.underlying50 sz50 rfl) ?_ | refine lw_val rfl (run_loadRow hs 8 rfl Tryd.underlying50 sz50 rfl) ?_ | refine lw_val rfl (run_loadRow hs 9 rfl Tryd.underlying50 sz50 rfl) ?_ | refine lw_val rfl (run_loadRow hs 10 rfl Tryd.underlying50 sz50 rfl) ?_ | refine lw_val rfl (run_loadRow hs 11 rfl Tryd.underlying50 sz50 rfl) ?_ | refine lw_val rfl (run_loadRow hs 12 rfl Tryd.underlying50 sz50 rfl) ?_ | refine lw_val rfl (run_loadRow hs 13 rfl Tryd.underlying50 sz50 rfl) ?_
        refine lw_on rfl rfl (rfl) ?_
        refine lw_call rfl en35 (same20_sl hs _ _ _ _ _ _ _ _) ?_
        clear hs
        rintro _ w ⟨rfl, hs⟩
        first | refine lw_val rfl (run_pickT (v := .bool _) rfl (rfl) rfl) ?_
        first | refine lw_val rfl (run_assign (v := .bool _) rfl) ?_
        refine lw_nil ?_
        refine cw_ret ?_
        refine res1 (v := .bool _) rfl rfl ?_
        exact ⟨_, rfl, ret_b (decide_eq_true rfl), hs.nil⟩
    · intro h42
      have g42 := of_decide_eq_false h42
      refine cw_seq ?_
      refine cw_region ?_
      refine lw_val rfl (run_eqi rfl rfl) ?_
      first | refine lw_val rfl (run_assign (v := .bool _) rfl) ?_
      refine lw_nil ?_
      refine cw_if rfl ?_ ?_
      · intro h46
        have g46 := of_decide_eq_true h46
        refine cw_region ?_
        first | refine lw_val rfl (run_move (v := .int .i64 _) rfl) ?_
        first | refine lw_val rfl (run_fieldAddr (o' := 2) Tryd.underlying50 rfl sz3 rfl rfl rfl) ?_ | refine lw_val rfl (run_fieldAddr Tryd.underlying50 rfl sz3 rfl rfl rfl) ?_
        first | refine lw_store (v := .int .i64 _) hs 0 rfl sz3 rfl rfl rfl rfl ?_ | refine lw_store (v := .int .i64 _) hs 1 rfl sz3 rfl rfl rfl rfl ?_ | refine lw_store (v := .int .i64 _) hs 2 rfl sz3 rfl rfl rfl rfl ?_ | refine lw_store (v := .int .i64 _) hs 3 rfl sz3 rfl rfl rfl rfl ?_ | refine lw_store (v := .int .i64 _) hs 4 rfl sz3 rfl rfl rfl rfl ?_ | refine lw_store (v := .int .i64 _) hs 5 rfl sz3 rfl rfl rfl rfl ?_ | refine lw_store (v := .int .i64 _) hs 6 rfl sz3 rfl rfl rfl rfl ?_ | refine lw_store (v := .int .i64 _) hs 7 rfl sz3 rfl rfl rfl rfl ?_ | refine lw_store (v := .int .i64 _) hs 8 rfl sz3 rfl rfl rfl rfl ?_ | refine lw_store (v := .int .i64 _) hs 9 rfl sz3 rfl rfl rfl rfl ?_ | refine lw_store (v := .int .i64 _) hs 10 rfl sz3 rfl rfl rfl rfl ?_ | refine lw_store (v := .int .i64 _) hs 11 rfl sz3 rfl rfl rfl rfl ?_ | refine lw_store (v := .int .i64 _) hs 12 rfl sz3 rfl rfl rfl rfl ?_ | refine lw_store (v := .int .i64 _) hs 13 rfl sz3 rfl rfl rfl rfl ?_
        clear hs
        intro w hs
        try simp only [List.set_cons_succ, List.set_cons_zero] at hs
        refine lw_nil ?_
        refine cw_seq ?_
        rcases hal with ⟨hin, hl0, hl1, hl2, hl3⟩ | ⟨hin, hl0, hl1, hl2, hl3⟩
        · skip
          refine cw_region ?_
          first | refine lw_val rfl (run_move (v := .pointer (some _)) rfl) ?_ | refine lw_val rfl (run_move (v := .pointer none) rfl) ?_
          first | refine lw_val rfl (run_loadRow hs 0 rfl Tryd.underlying50 sz50 rfl) ?_ | refine lw_val rfl (run_loadRow hs 1 rfl Tryd.underlying50 sz50 rfl) ?_ | refine lw_val rfl (run_loadRow hs 2 rfl Tryd.underlying50 sz50 rfl) ?_ | refine lw_val rfl (run_loadRow hs 3 rfl Tryd.underlying50 sz50 rfl) ?_ | refine lw_val rfl (run_loadRow hs 4 rfl Tryd.underlying50 sz50 rfl) ?_ | refine lw_val rfl (run_loadRow hs 5 rfl Tryd.underlying50 sz50 rfl) ?_ | refine lw_val rfl (run_loadRow hs 6 rfl Tryd.underlying50 sz50 rfl) ?_ | refine lw_val rfl (run_loadRow hs 7 rfl Tryd.underlying50 sz50 rfl) ?_ | refine lw_val rfl (run_loadRow hs 8 rfl Tryd.underlying50 sz50 rfl) ?_ | refine lw_val rfl (run_loadRow hs 9 rfl Tryd.underlying50 sz50 rfl) ?_ | refine lw_val rfl (run_loadRow hs 10 rfl Tryd.underlying50 sz50 rfl) ?_ | refine lw_val rfl (run_loadRow hs 11 rfl Tryd.underlying50 sz50 rfl) ?_ | refine lw_val rfl (run_loadRow hs 12 rfl Tryd.underlying50 sz50 rfl) ?_ | refine lw_val rfl (run_loadRow hs 13 rfl Tryd.underlying50 sz50 rfl) ?_
          refine lw_call rfl en32 (jwrite_sl hE (d := e1) (L := cells _ _ _ :: cells _ _ _ :: []) (by omega) (hs.arr [1, 0, 2] 3 (by decide)) i1 i2 hn i4 (hno _ hl2)) ?_
          clear hs
          rintro _ w ⟨rfl, hs⟩
          first | refine lw_val rfl (run_assign (v := errV ad _) rfl) ?_ | refine lw_val rfl (run_assign (v := .nilIface) rfl) ?_ | refine lw_val rfl (run_assign (v := eV ad _ _) rfl) ?_ | refine lw_val rfl (run_assign (v := .iface _ (.pointer (some _))) rfl) ?_
          refine lw_nil ?_
          refine cw_seq ?_
          refine cw_region ?_
          first | refine lw_val rfl (run_move (v := .pointer (some _)) rfl) ?_ | refine lw_val rfl (run_move (v := .pointer none) rfl) ?_
          refine lw_call rfl en28 (jread_sl hE hs (j := (0, true, 1, 2, 3, 4)) (pt1.jread (upU _ _) (all_I (by decide)) (by decide))) ?_
          clear hs
          rintro _ w ⟨rfl, hs⟩
          first | refine lw_val rfl (run_move (v := .tuple _) rfl) ?_
          first | refine lw_val rfl (run_extract (v := .agg _) rfl rfl) ?_
          first | refine lw_val rfl (run_extract (v := .bool _) rfl rfl) ?_
          first | refine lw_val rfl (run_extract (v := errV ad _) rfl rfl) ?_ | refine lw_val rfl (run_extract (v := .nilIface) rfl rfl) ?_ | refine lw_val rfl (run_extract (v := eV ad _ _) rfl rfl) ?_ | refine lw_val rfl (run_extract (v := .iface _ (.pointer (some _))) rfl rfl) ?_
          refine lw_alloc hs rfl ze50 ?_
          clear hs
          intro b11 w hs
          try simp only [List.set_cons_succ, List.set_cons_zero] at hs
          first | refine lw_storeRow hs 0 rfl rfl rfl sz50 rfl rfl ?_ | refine lw_storeRow hs 1 rfl rfl rfl sz50 rfl rfl ?_ | refine lw_storeRow hs 2 rfl rfl rfl sz50 rfl rfl ?_ | refine lw_storeRow hs 3 rfl rfl rfl sz50 rfl rfl ?_ | refine lw_storeRow hs 4 rfl rfl rfl sz50 rfl rfl ?_ | refine lw_storeRow hs 5 rfl rfl rfl sz50 rfl rfl ?_ | refine lw_storeRow hs 6 rfl rfl rfl sz50 rfl rfl ?_ | refine lw_storeRow hs 7 rfl rfl rfl sz50 rfl rfl ?_ | refine lw_storeRow hs 8 rfl rfl rfl sz50 rfl rfl ?_ | refine lw_storeRow hs 9 rfl rfl rfl sz50 rfl rfl ?_ | refine lw_storeRow hs 10 rfl rfl rfl sz50 rfl rfl ?_ | refine lw_storeRow hs 11 rfl rfl rfl sz50 rfl rfl ?_ | refine lw_storeRow hs 12 rfl rfl rfl sz50 rfl rfl ?_ | refine lw_storeRow hs 13 rfl rfl rfl sz50 rfl rfl ?_
          clear hs
          intro w hs
          try simp only [List.set_cons_succ, List.set_cons_zero] at hs
          first | refine lw_val rfl (run_assign (v := .bool _) rfl) ?_
          first | refine lw_val rfl (run_assign (v := errV ad _) rfl) ?_ | refine lw_val rfl (run_assign (v := .nilIface) rfl) ?_ | refine lw_val rfl (run_assign (v := eV ad _ _) rfl) ?_ | refine lw_val rfl (run_assign (v := .iface _ (.pointer (some _))) rfl) ?_
          refine lw_nil ?_
          refine cw_seq ?_
          refine cw_seq ?_
          refine cw_region ?_
          first | refine lw_val rfl (run_move (v := .int .i64 _) rfl) ?_
          refine lw_call rfl en33 (right_sl hs n) ?_
          clear hs
          rintro _ w ⟨rfl, hs⟩
          refine lw_val rfl (run_not rfl) ?_
          refine lw_nil ?_
          refine cw_ift rfl (not_t (hin)) ?_
          refine cw_seq ?_
          refine cw_region ?_
          first | refine lw_val rfl (run_move (v := .bool _) rfl) ?_
          first | refine lw_val rfl (run_move (v := .bool _) rfl) ?_
          refine lw_on rfl rfl (rfl) ?_
          first | refine lw_val rfl (run_move (v := errV ad _) rfl) ?_ | refine lw_val rfl (run_move (v := .nilIface) rfl) ?_ | refine lw_val rfl (run_move (v := eV ad _ _) rfl) ?_ | refine lw_val rfl (run_move (v := .iface _ (.pointer (some _))) rfl) ?_
          refine lw_on rfl rfl (rfl) ?_
          refine lw_call rfl en34 (isA_sl hA hs (d := 105) (by decide) 105) ?_
          clear hs
          rintro _ w ⟨rfl, hs⟩
          first | refine lw_val rfl (run_pickT (v := .bool _) rfl (rfl) rfl) ?_
          first | refine lw_val rfl (run_move (v := .bool _) rfl) ?_
          refine lw_on rfl rfl (rfl) ?_
          first | refine lw_val rfl (run_move (v := .bool _) rfl) ?_
          first | refine lw_val rfl (run_pickT (v := .bool _) rfl (rfl) rfl) ?_
          first | refine lw_val rfl (run_move (v := .bool _) rfl) ?_
          refine lw_on rfl rfl (rfl) ?_
          first | refine lw_val rfl (run_move (v := errV ad _) rfl) ?_ | refine lw_val rfl (run_move (v := .nilIface) rfl) ?_ | refine lw_val rfl (run_move (v := eV ad _ _) rfl) ?_ | refine lw_val rfl (run_move (v := .iface _ (.pointer (some _))) rfl) ?_
          refine lw_on rfl rfl (rfl) ?_
          first | refine lw_val rfl (run_eqerrn (ad := ad) rfl) ?_ | refine lw_val rfl (run_eqnn rfl) ?_ | refine lw_val rfl (run_eqE (ad := ad) rfl) ?_
          first | refine lw_val rfl (run_pickT (v := .bool _) rfl (rfl) rfl) ?_
          first | refine lw_val rfl (run_move (v := .bool _) rfl) ?_
          refine lw_on rfl rfl (rfl) ?_
          first | refine lw_val rfl (run_loadRow hs 0 rfl Tryd.underlying50 sz50 rfl) ?_ | refine lw_val rfl (run_loadRow hs 1 rfl Tryd.underlying50 sz50 rfl) ?_ | refine lw_val rfl (run_loadRow hs 2 rfl Tryd.underlying50 sz50 rfl) ?_ | refine lw_val rfl (run_loadRow hs 3 rfl Tryd.underlying50 sz50 rfl) ?_ | refine lw_val rfl (run_loadRow hs 4 rfl Tryd.underlying50 sz50 rfl) ?_ | refine lw_val rfl (run_loadRow hs 5 rfl Tryd.underlying50 sz50 rfl) ?_ | refine lw_val rfl (run_loadRow hs 6 rfl Tryd.underlying50 sz50 rfl) ?_ | refine lw_val rfl (run_loadRow hs 7 rfl Tryd.underlying50 sz50 rfl) ?_ | refine lw_val rfl (run_loadRow hs 8 rfl Tryd.underlying50 sz50 rfl) ?_ | refine lw_val rfl (run_loadRow hs 9 rfl Tryd.underlying50 sz50 rfl) ?_ | refine lw_val rfl (run_loadRow hs 10 rfl Tryd.underlying50 sz50 rfl) ?_ | refine lw_val rfl (run_loadRow hs 11 rfl Tryd.underlying50 sz50 rfl) ?_ | refine lw_val rfl (run_loadRow hs 12 rfl Tryd.underlying50 sz50 rfl) ?_ | refine lw_val rfl (run_loadRow hs 13 rfl Tryd.underlying50 sz50 rfl) ?_
          refine lw_on rfl rfl (rfl) ?_
          first | refine lw_val rfl (run_loadRow hs 0 rfl Tryd.underlying50 sz50 rfl) ?_ | refine lw_val rfl (run_loadRow hs 1 rfl Tryd.underlying50 sz50 rfl) ?_ | refine lw_val rfl (run_loadRow hs 2 rfl Tryd.underlying50 sz50 rfl) ?_ | refine lw_val rfl (run_loadRow hs 3 rfl Tryd.underlying50 sz50 rfl) ?_ | refine lw_val rfl (run_loadRow hs 4 rfl Tryd.underlying50 sz50 rfl) ?_ | refine lw_val rfl (run_loadRow hs 5 rfl Tryd.underlying50 sz50 rfl) ?_ | refine lw_val rfl (run_loadRow hs 6 rfl Tryd.underlying50 sz50 rfl) ?_ | refine lw_val rfl (run_loadRow hs 7 rfl Tryd.underlying50 sz50 rfl) ?_ | refine lw_val rfl (run_loadRow hs 8 rfl Tryd.underlying50 sz50 rfl) ?_ | refine lw_val rfl (run_loadRow hs 9 rfl Tryd.underlying50 sz50 rfl) ?_ | refine lw_val rfl (run_loadRow hs 10 rfl Tryd.underlying50 sz50 rfl) ?_ | refine lw_val rfl (run_loadRow hs 11 rfl Tryd.underlying50 sz50 rfl) ?_ | refine lw_val rfl (run_loadRow hs 12 rfl Tryd.underlying50 sz50 rfl) ?_ | refine lw_val rfl (run_loadRow hs 13 rfl Tryd.underlying50 sz50 rfl) ?_
          refine lw_on rfl rfl (rfl) ?_
          refine lw_call rfl en35 (same20_sl hs _ _ _ _ _ _ _ _) ?_
          clear hs
          rintro _ w ⟨rfl, hs⟩
          first | refine lw_val rfl (run_pickT (v := .bool _) rfl (rfl) rfl) ?_
          first | refine lw_val rfl (run_assign (v := .bool _) rfl) ?_
          refine lw_nil ?_
          refine cw_ret ?_
          refine res1 (v := .bool _) rfl rfl ?_
          exact ⟨_, rfl, ret_b (decide_eq_true rfl), hs.nil⟩
        · skip
          obtain ⟨k2, e2, hw2, hr2, hc2, hd2⟩ := pt1.jwrite (l := [1, 2, n, 4]) rfl (by omega)
          obtain ⟨_, rfl, _, _, hp2⟩ := hd2.resolve_right (fun h => h.elim (fun h => h.2.2.2.1 ha1) (fun h => by rw [hl2] at h; cases h.1))
          refine cw_region ?_
          first | refine lw_val rfl (run_move (v := .pointer (some _)) rfl) ?_ | refine lw_val rfl (run_move (v := .pointer none) rfl) ?_
          first | refine lw_val rfl (run_loadRow hs 0 rfl Tryd.underlying50 sz50 rfl) ?_ | refine lw_val rfl (run_loadRow hs 1 rfl Tryd.underlying50 sz50 rfl) ?_ | refine lw_val rfl (run_loadRow hs 2 rfl Tryd.underlying50 sz50 rfl) ?_ | refine lw_val rfl (run_loadRow hs 3 rfl Tryd.underlying50 sz50 rfl) ?_ | refine lw_val rfl (run_loadRow hs 4 rfl Tryd.underlying50 sz50 rfl) ?_ | refine lw_val rfl (run_loadRow hs 5 rfl Tryd.underlying50 sz50 rfl) ?_ | refine lw_val rfl (run_loadRow hs 6 rfl Tryd.underlying50 sz50 rfl) ?_ | refine lw_val rfl (run_loadRow hs 7 rfl Tryd.underlying50 sz50 rfl) ?_ | refine lw_val rfl (run_loadRow hs 8 rfl Tryd.underlying50 sz50 rfl) ?_ | refine lw_val rfl (run_loadRow hs 9 rfl Tryd.underlying50 sz50 rfl) ?_ | refine lw_val rfl (run_loadRow hs 10 rfl Tryd.underlying50 sz50 rfl) ?_ | refine lw_val rfl (run_loadRow hs 11 rfl Tryd.underlying50 sz50 rfl) ?_ | refine lw_val rfl (run_loadRow hs 12 rfl Tryd.underlying50 sz50 rfl) ?_ | refine lw_val rfl (run_loadRow hs 13 rfl Tryd.underlying50 sz50 rfl) ?_
          refine lw_call rfl en32 (jwrite_sl hE (d := e1) (L := cells _ _ _ :: cells _ _ _ :: []) (by omega) (hs.arr [1, 0, 2] 3 (by decide)) i1 i2 hn i4 hw2) ?_
          clear hs
          rintro _ w ⟨rfl, hs⟩
          first | refine lw_val rfl (run_assign (v := errV ad _) rfl) ?_ | refine lw_val rfl (run_assign (v := .nilIface) rfl) ?_ | refine lw_val rfl (run_assign (v := eV ad _ _) rfl) ?_ | refine lw_val rfl (run_assign (v := .iface _ (.pointer (some _))) rfl) ?_
          refine lw_nil ?_
          refine cw_seq ?_
          obtain ⟨hok2, _⟩ := hs.openD
          have pt2 := hp2 hok2
          refine cw_region ?_
          first | refine lw_val rfl (run_move (v := .pointer (some _)) rfl) ?_ | refine lw_val rfl (run_move (v := .pointer none) rfl) ?_
          refine lw_call rfl en28 (jread_sl hE hs (j := (0, true, 1, 2, n, 4)) (pt2.jread (upU _ _) (all_I hl2) hl2)) ?_
          clear hs
          rintro _ w ⟨rfl, hs⟩
          first | refine lw_val rfl (run_move (v := .tuple _) rfl) ?_
          first | refine lw_val rfl (run_extract (v := .agg _) rfl rfl) ?_
          first | refine lw_val rfl (run_extract (v := .bool _) rfl rfl) ?_
          first | refine lw_val rfl (run_extract (v := errV ad _) rfl rfl) ?_ | refine lw_val rfl (run_extract (v := .nilIface) rfl rfl) ?_ | refine lw_val rfl (run_extract (v := eV ad _ _) rfl rfl) ?_ | refine lw_val rfl (run_extract (v := .iface _ (.pointer (some _))) rfl rfl) ?_
          refine lw_alloc hs rfl ze50 ?_
          clear hs
          intro b11 w hs
          try simp only [List.set_cons_succ, List.set_cons_zero] at hs
          first | refine lw_storeRow hs 0 rfl rfl rfl sz50 rfl rfl ?_ | refine lw_storeRow hs 1 rfl rfl rfl sz50 rfl rfl ?_ | refine lw_storeRow hs 2 rfl rfl rfl sz50 rfl rfl ?_ | refine lw_storeRow hs 3 rfl rfl rfl sz50 rfl rfl ?_ | refine lw_storeRow hs 4 rfl rfl rfl sz50 rfl rfl ?_ | refine lw_storeRow hs 5 rfl rfl rfl sz50 rfl rfl ?_ | refine lw_storeRow hs 6 rfl rfl rfl sz50 rfl rfl ?_ | refine lw_storeRow hs 7 rfl rfl rfl sz50 rfl rfl ?_ | refine lw_storeRow hs 8 rfl rfl rfl sz50 rfl rfl ?_ | refine lw_storeRow hs 9 rfl rfl rfl sz50 rfl rfl ?_ | refine lw_storeRow hs 10 rfl rfl rfl sz50 rfl rfl ?_ | refine lw_storeRow hs 11 rfl rfl rfl sz50 rfl rfl ?_ | refine lw_storeRow hs 12 rfl rfl rfl sz50 rfl rfl ?_ | refine lw_storeRow hs 13 rfl rfl rfl sz50 rfl rfl ?_
          clear hs
          intro w hs
          try simp only [List.set_cons_succ, List.set_cons_zero] at hs
          first | refine lw_val rfl (run_assign (v := .bool _) rfl) ?_
          first | refine lw_val rfl (run_assign (v := errV ad _) rfl) ?_ | refine lw_val rfl (run_assign (v := .nilIface) rfl) ?_ | refine lw_val rfl (run_assign (v := eV ad _ _) rfl) ?_ | refine lw_val rfl (run_assign (v := .iface _ (.pointer (some _))) rfl) ?_
          refine lw_nil ?_
          refine cw_seq ?_
          refine cw_seq ?_
          refine cw_region ?_
          first | refine lw_val rfl (run_move (v := .int .i64 _) rfl) ?_
          refine lw_call rfl en33 (right_sl hs n) ?_
          clear hs
          rintro _ w ⟨rfl, hs⟩
          refine lw_val rfl (run_not rfl) ?_
          refine lw_nil ?_
          refine cw_iff rfl (not_f (hin)) ?_
          refine cw_skip ?_
          refine cw_seq ?_
          refine cw_region ?_
          first | refine lw_val rfl (run_move (v := .bool _) rfl) ?_
          first | refine lw_val rfl (run_move (v := .bool _) rfl) ?_
          refine lw_on rfl rfl (rfl) ?_
          first | refine lw_val rfl (run_move (v := errV ad _) rfl) ?_ | refine lw_val rfl (run_move (v := .nilIface) rfl) ?_ | refine lw_val rfl (run_move (v := eV ad _ _) rfl) ?_ | refine lw_val rfl (run_move (v := .iface _ (.pointer (some _))) rfl) ?_
          refine lw_on rfl rfl (rfl) ?_
          first | refine lw_val rfl (run_eqerrn (ad := ad) rfl) ?_ | refine lw_val rfl (run_eqnn rfl) ?_ | refine lw_val rfl (run_eqE (ad := ad) rfl) ?_
          first | refine lw_val rfl (run_pickT (v := .bool _) rfl (rfl) rfl) ?_
          first | refine lw_val rfl (run_move (v := .bool _) rfl) ?_
          refine lw_on rfl rfl (rfl) ?_
          first | refine lw_val rfl (run_move (v := .bool _) rfl) ?_
          first | refine lw_val rfl (run_pickT (v := .bool _) rfl (rfl) rfl) ?_
          first | refine lw_val rfl (run_move (v := .bool _) rfl) ?_
          refine lw_on rfl rfl (rfl) ?_
          first | refine lw_val rfl (run_move (v := errV ad _) rfl) ?_ | refine lw_val rfl (run_move (v := .nilIface) rfl) ?_ | refine lw_val rfl (run_move (v := eV ad _ _) rfl) ?_ | refine lw_val rfl (run_move (v := .iface _ (.pointer (some _))) rfl) ?_
          refine lw_on rfl rfl (rfl) ?_
          first | refine lw_val rfl (run_eqerrn (ad := ad) rfl) ?_ | refine lw_val rfl (run_eqnn rfl) ?_ | refine lw_val rfl (run_eqE (ad := ad) rfl) ?_
          first | refine lw_val rfl (run_pickT (v := .bool _) rfl (rfl) rfl) ?_
          first | refine lw_val rfl (run_move (v := .bool _) rfl) ?_
          refine lw_on rfl rfl (rfl) ?_
          first | refine lw_val rfl (run_loadRow hs 0 rfl Tryd.underlying50 sz50 rfl) ?_ | refine lw_val rfl (run_loadRow hs 1 rfl Tryd.underlying50 sz50 rfl) ?_ | refine lw_val rfl (run_loadRow hs 2 rfl Tryd.underlying50 sz50 rfl) ?_ | refine lw_val rfl (run_loadRow hs 3 rfl Tryd.underlying50 sz50 rfl) ?_ | refine lw_val rfl (run_loadRow hs 4 rfl Tryd.underlying50 sz50 rfl) ?_ | refine lw_val rfl (run_loadRow hs 5 rfl Tryd.underlying50 sz50 rfl) ?_ | refine lw_val rfl (run_loadRow hs 6 rfl Tryd.underlying50 sz50 rfl) ?_ | refine lw_val rfl (run_loadRow hs 7 rfl Tryd.underlying50 sz50 rfl) ?_ | refine lw_val rfl (run_loadRow hs 8 rfl Tryd.underlying50 sz50 rfl) ?_ | refine lw_val rfl (run_loadRow hs 9 rfl Tryd.underlying50 sz50 rfl) ?_ | refine lw_val rfl (run_loadRow hs 10 rfl Tryd.underlying50 sz50 rfl) ?_ | refine lw_val rfl (run_loadRow hs 11 rfl Tryd.underlying50 sz50 rfl) ?_ | refine lw_val rfl (run_loadRow hs 12 rfl Tryd.underlying50 sz50 rfl) ?_ | refine lw_val rfl (run_loadRow hs 13 rfl Tryd.underlying50 sz50 rfl) ?_
          refine lw_on rfl rfl (rfl) ?_
          first | refine lw_val rfl (run_loadRow hs 0 rfl Tryd.underlying50 sz50 rfl) ?_ | refine lw_val rfl (run_loadRow hs 1 rfl Tryd.underlying50 sz50 rfl) ?_ | refine lw_val rfl (run_loadRow hs 2 rfl Tryd.underlying50 sz50 rfl) ?_ | refine lw_val rfl (run_loadRow hs 3 rfl Tryd.underlying50 sz50 rfl) ?_ | refine lw_val rfl (run_loadRow hs 4 rfl Tryd.underlying50 sz50 rfl) ?_ | refine lw_val rfl (run_loadRow hs 5 rfl Tryd.underlying50 sz50 rfl) ?_ | refine lw_val rfl (run_loadRow hs 6 rfl Tryd.underlying50 sz50 rfl) ?_ | refine lw_val rfl (run_loadRow hs 7 rfl Tryd.underlying50 sz50 rfl) ?_ | refine lw_val rfl (run_loadRow hs 8 rfl Tryd.underlying50 sz50 rfl) ?_ | refine lw_val rfl (run_loadRow hs 9 rfl Tryd.underlying50 sz50 rfl) ?_ | refine lw_val rfl (run_loadRow hs 10 rfl Tryd.underlying50 sz50 rfl) ?_ | refine lw_val rfl (run_loadRow hs 11 rfl Tryd.underlying50 sz50 rfl) ?_ | refine lw_val rfl (run_loadRow hs 12 rfl Tryd.underlying50 sz50 rfl) ?_ | refine lw_val rfl (run_loadRow hs 13 rfl Tryd.underlying50 sz50 rfl) ?_
          refine lw_on rfl rfl (rfl) ?_
          refine lw_call rfl en35 (same20_sl hs _ _ _ _ _ _ _ _) ?_
          clear hs
          rintro _ w ⟨rfl, hs⟩
          first | refine lw_val rfl (run_pickT (v := .bool _) rfl (rfl) rfl) ?_
          first | refine lw_val rfl (run_assign (v := .bool _) rfl) ?_
          refine lw_nil ?_
          refine cw_ret ?_
          refine res1 (v := .bool _) rfl rfl ?_
          exact ⟨_, rfl, ret_b (decide_eq_true rfl), hs.nil⟩
      · intro h46
        have g46 := of_decide_eq_false h46
        refine cw_region ?_
        first | refine lw_val rfl (run_move (v := .int .i64 _) rfl) ?_
        first | refine lw_val rfl (run_fieldAddr (o' := 3) Tryd.underlying50 rfl sz3 rfl rfl rfl) ?_ | refine lw_val rfl (run_fieldAddr Tryd.underlying50 rfl sz3 rfl rfl rfl) ?_
        first | refine lw_store (v := .int .i64 _) hs 0 rfl sz3 rfl rfl rfl rfl ?_ | refine lw_store (v := .int .i64 _) hs 1 rfl sz3 rfl rfl rfl rfl ?_ | refine lw_store (v := .int .i64 _) hs 2 rfl sz3 rfl rfl rfl rfl ?_ | refine lw_store (v := .int .i64 _) hs 3 rfl sz3 rfl rfl rfl rfl ?_ | refine lw_store (v := .int .i64 _) hs 4 rfl sz3 rfl rfl rfl rfl ?_ | refine lw_store (v := .int .i64 _) hs 5 rfl sz3 rfl rfl rfl rfl ?_ | refine lw_store (v := .int .i64 _) hs 6 rfl sz3 rfl rfl rfl rfl ?_ | refine lw_store (v := .int .i64 _) hs 7 rfl sz3 rfl rfl rfl rfl ?_ | refine lw_store (v := .int .i64 _) hs 8 rfl sz3 rfl rfl rfl rfl ?_ | refine lw_store (v := .int .i64 _) hs 9 rfl sz3 rfl rfl rfl rfl ?_ | refine lw_store (v := .int .i64 _) hs 10 rfl sz3 rfl rfl rfl rfl ?_ | refine lw_store (v := .int .i64 _) hs 11 rfl sz3 rfl rfl rfl rfl ?_ | refine lw_store (v := .int .i64 _) hs 12 rfl sz3 rfl rfl rfl rfl ?_ | refine lw_store (v := .int .i64 _) hs 13 rfl sz3 rfl rfl rfl rfl ?_
        clear hs
        intro w hs
        try simp only [List.set_cons_succ, List.set_cons_zero] at hs
        refine lw_nil ?_
        refine cw_seq ?_
        rcases hal with ⟨hin, hl0, hl1, hl2, hl3⟩ | ⟨hin, hl0, hl1, hl2, hl3⟩
        · skip
          refine cw_region ?_
          first | refine lw_val rfl (run_move (v := .pointer (some _)) rfl) ?_ | refine lw_val rfl (run_move (v := .pointer none) rfl) ?_
          first | refine lw_val rfl (run_loadRow hs 0 rfl Tryd.underlying50 sz50 rfl) ?_ | refine lw_val rfl (run_loadRow hs 1 rfl Tryd.underlying50 sz50 rfl) ?_ | refine lw_val rfl (run_loadRow hs 2 rfl Tryd.underlying50 sz50 rfl) ?_ | refine lw_val rfl (run_loadRow hs 3 rfl Tryd.underlying50 sz50 rfl) ?_ | refine lw_val rfl (run_loadRow hs 4 rfl Tryd.underlying50 sz50 rfl) ?_ | refine lw_val rfl (run_loadRow hs 5 rfl Tryd.underlying50 sz50 rfl) ?_ | refine lw_val rfl (run_loadRow hs 6 rfl Tryd.underlying50 sz50 rfl) ?_ | refine lw_val rfl (run_loadRow hs 7 rfl Tryd.underlying50 sz50 rfl) ?_ | refine lw_val rfl (run_loadRow hs 8 rfl Tryd.underlying50 sz50 rfl) ?_ | refine lw_val rfl (run_loadRow hs 9 rfl Tryd.underlying50 sz50 rfl) ?_ | refine lw_val rfl (run_loadRow hs 10 rfl Tryd.underlying50 sz50 rfl) ?_ | refine lw_val rfl (run_loadRow hs 11 rfl Tryd.underlying50 sz50 rfl) ?_ | refine lw_val rfl (run_loadRow hs 12 rfl Tryd.underlying50 sz50 rfl) ?_ | refine lw_val rfl (run_loadRow hs 13 rfl Tryd.underlying50 sz50 rfl) ?_
          refine lw_call rfl en32 (jwrite_sl hE (d := e1) (L := cells _ _ _ :: cells _ _ _ :: []) (by omega) (hs.arr [1, 0, 2] 3 (by decide)) i1 i2 i3 hn (hno _ hl3)) ?_
          clear hs
          rintro _ w ⟨rfl, hs⟩
          first | refine lw_val rfl (run_assign (v := errV ad _) rfl) ?_ | refine lw_val rfl (run_assign (v := .nilIface) rfl) ?_ | refine lw_val rfl (run_assign (v := eV ad _ _) rfl) ?_ | refine lw_val rfl (run_assign (v := .iface _ (.pointer (some _))) rfl) ?_
          refine lw_nil ?_
          refine cw_seq ?_
          refine cw_region ?_
          first | refine lw_val rfl (run_move (v := .pointer (some _)) rfl) ?_ | refine lw_val rfl (run_move (v := .pointer none) rfl) ?_
          refine lw_call rfl en28 (jread_sl hE hs (j := (0, true, 1, 2, 3, 4)) (pt1.jread (upU _ _) (all_I (by decide)) (by decide))) ?_
          clear hs
          rintro _ w ⟨rfl, hs⟩
          first | refine lw_val rfl (run_move (v := .tuple _) rfl) ?_
          first | refine lw_val rfl (run_extract (v := .agg _) rfl rfl) ?_
          first | refine lw_val rfl (run_extract (v := .bool _) rfl rfl) ?_
          first | refine lw_val rfl (run_extract (v := errV ad _) rfl rfl) ?_ | refine lw_val rfl (run_extract (v := .nilIface) rfl rfl) ?_ | refine lw_val rfl (run_extract (v := eV ad _ _) rfl rfl) ?_ | refine lw_val rfl (run_extract (v := .iface _ (.pointer (some _))) rfl rfl) ?_
          refine lw_alloc hs rfl ze50 ?_
          clear hs
          intro b11 w hs
          try simp only [List.set_cons_succ, List.set_cons_zero] at hs
          first | refine lw_storeRow hs 0 rfl rfl rfl sz50 rfl rfl ?_ | refine lw_storeRow hs 1 rfl rfl rfl sz50 rfl rfl ?_ | refine lw_storeRow hs 2 rfl rfl rfl sz50 rfl rfl ?_ | refine lw_storeRow hs 3 rfl rfl rfl sz50 rfl rfl ?_ | refine lw_storeRow hs 4 rfl rfl rfl sz50 rfl rfl ?_ | refine lw_storeRow hs 5 rfl rfl rfl sz50 rfl rfl ?_ | refine lw_storeRow hs 6 rfl rfl rfl sz50 rfl rfl ?_ | refine lw_storeRow hs 7 rfl rfl rfl sz50 rfl rfl ?_ | refine lw_storeRow hs 8 rfl rfl rfl sz50 rfl rfl ?_ | refine lw_storeRow hs 9 rfl rfl rfl sz50 rfl rfl ?_ | refine lw_storeRow hs 10 rfl rfl rfl sz50 rfl rfl ?_ | refine lw_storeRow hs 11 rfl rfl rfl sz50 rfl rfl ?_ | refine lw_storeRow hs 12 rfl rfl rfl sz50 rfl rfl ?_ | refine lw_storeRow hs 13 rfl rfl rfl sz50 rfl rfl ?_
          clear hs
          intro w hs
          try simp only [List.set_cons_succ, List.set_cons_zero] at hs
          first | refine lw_val rfl (run_assign (v := .bool _) rfl) ?_
          first | refine lw_val rfl (run_assign (v := errV ad _) rfl) ?_ | refine lw_val rfl (run_assign (v := .nilIface) rfl) ?_ | refine lw_val rfl (run_assign (v := eV ad _ _) rfl) ?_ | refine lw_val rfl (run_assign (v := .iface _ (.pointer (some _))) rfl) ?_
          refine lw_nil ?_
          refine cw_seq ?_
          refine cw_seq ?_
          refine cw_region ?_
          first | refine lw_val rfl (run_move (v := .int .i64 _) rfl) ?_
          refine lw_call rfl en33 (right_sl hs n) ?_
          clear hs
          rintro _ w ⟨rfl, hs⟩
          refine lw_val rfl (run_not rfl) ?_
          refine lw_nil ?_
          refine cw_ift rfl (not_t (hin)) ?_
          refine cw_seq ?_
          refine cw_region ?_
          first | refine lw_val rfl (run_move (v := .bool _) rfl) ?_
          first | refine lw_val rfl (run_move (v := .bool _) rfl) ?_
          refine lw_on rfl rfl (rfl) ?_
          first | refine lw_val rfl (run_move (v := errV ad _) rfl) ?_ | refine lw_val rfl (run_move (v := .nilIface) rfl) ?_ | refine lw_val rfl (run_move (v := eV ad _ _) rfl) ?_ | refine lw_val rfl (run_move (v := .iface _ (.pointer (some _))) rfl) ?_
          refine lw_on rfl rfl (rfl) ?_
          refine lw_call rfl en34 (isA_sl hA hs (d := 105) (by decide) 105) ?_
          clear hs
          rintro _ w ⟨rfl, hs⟩
          first | refine lw_val rfl (run_pickT (v := .bool _) rfl (rfl) rfl) ?_
          first | refine lw_val rfl (run_move (v := .bool _) rfl) ?_
          refine lw_on rfl rfl (rfl) ?_
          first | refine lw_val rfl (run_move (v := .bool _) rfl) ?_
          first | refine lw_val rfl (run_pickT (v := .bool _) rfl (rfl) rfl) ?_
          first | refine lw_val rfl (run_move (v := .bool _) rfl) ?_
          refine lw_on rfl rfl (rfl) ?_
          first | refine lw_val rfl (run_move (v := errV ad _) rfl) ?_ | refine lw_val rfl (run_move (v := .nilIface) rfl) ?_ | refine lw_val rfl (run_move (v := eV ad _ _) rfl) ?_ | refine lw_val rfl (run_move (v := .iface _ (.pointer (some _))) rfl) ?_
          refine lw_on rfl rfl (rfl) ?_
          first | refine lw_val rfl (run_eqerrn (ad := ad) rfl) ?_ | refine lw_val rfl (run_eqnn rfl) ?_ | refine lw_val rfl (run_eqE (ad := ad) rfl) ?_
          first | refine lw_val rfl (run_pickT (v := .bool _) rfl (rfl) rfl) ?_
          first | refine lw_val rfl (run_move (v := .bool _) rfl) ?_
          refine lw_on rfl rfl (rfl) ?_
          first | refine lw_val rfl (run_loadRow hs 0 rfl Tryd.underlying50 sz50 rfl) ?_ | refine lw_val rfl (run_loadRow hs 1 rfl Tryd.underlying50 sz50 rfl) ?_ | refine lw_val rfl (run_loadRow hs 2 rfl Tryd.underlying50 sz50 rfl) ?_ | refine lw_val rfl (run_loadRow hs 3 rfl Tryd.underlying50 sz50 rfl) ?_ | refine lw_val rfl (run_loadRow hs 4 rfl Tryd.underlying50 sz50 rfl) ?_ | refine lw_val rfl (run_loadRow hs 5 rfl Tryd.underlying50 sz50 rfl) ?_ | refine lw_val rfl (run_loadRow hs 6 rfl Tryd.underlying50 sz50 rfl) ?_ | refine lw_val rfl (run_loadRow hs 7 rfl Tryd.underlying50 sz50 rfl) ?_ | refine lw_val rfl (run_loadRow hs 8 rfl Tryd.underlying50 sz50 rfl) ?_ | refine lw_val rfl (run_loadRow hs 9 rfl Tryd.underlying50 sz50 rfl) ?_ | refine lw_val rfl (run_loadRow hs 10 rfl Tryd.underlying50 sz50 rfl) ?_ | refine lw_val rfl (run_loadRow hs 11 rfl Tryd.underlying50 sz50 rfl) ?_ | refine lw_val rfl (run_loadRow hs 12 rfl Tryd.underlying50 sz50 rfl) ?_ | refine lw_val rfl (run_loadRow hs 13 rfl Tryd.underlying50 sz50 rfl) ?_
          refine lw_on rfl rfl (rfl) ?_
          first | refine lw_val rfl (run_loadRow hs 0 rfl Tryd.underlying50 sz50 rfl) ?_ | refine lw_val rfl (run_loadRow hs 1 rfl Tryd.underlying50 sz50 rfl) ?_ | refine lw_val rfl (run_loadRow hs 2 rfl Tryd.underlying50 sz50 rfl) ?_ | refine lw_val rfl (run_loadRow hs 3 rfl Tryd.underlying50 sz50 rfl) ?_ | refine lw_val rfl (run_loadRow hs 4 rfl Tryd.underlying50 sz50 rfl) ?_ | refine lw_val rfl (run_loadRow hs 5 rfl Tryd.underlying50 sz50 rfl) ?_ | refine lw_val rfl (run_loadRow hs 6 rfl Tryd.underlying50 sz50 rfl) ?_ | refine lw_val rfl (run_loadRow hs 7 rfl Tryd.underlying50 sz50 rfl) ?_ | refine lw_val rfl (run_loadRow hs 8 rfl Tryd.underlying50 sz50 rfl) ?_ | refine lw_val rfl (run_loadRow hs 9 rfl Tryd.underlying50 sz50 rfl) ?_ | refine lw_val rfl (run_loadRow hs 10 rfl Tryd.underlying50 sz50 rfl) ?_ | refine lw_val rfl (run_loadRow hs 11 rfl Tryd.underlying50 sz50 rfl) ?_ | refine lw_val rfl (run_loadRow hs 12 rfl Tryd.underlying50 sz50 rfl) ?_ | refine lw_val rfl (run_loadRow hs 13 rfl Tryd.underlying50 sz50 rfl) ?_
          refine lw_on rfl rfl (rfl) ?_
          refine lw_call rfl en35 (same20_sl hs _ _ _ _ _ _ _ _) ?_
          clear hs
          rintro _ w ⟨rfl, hs⟩
          first | refine lw_val rfl (run_pickT (v := .bool _) rfl (rfl) rfl) ?_
          first | refine lw_val rfl (run_assign (v := .bool _) rfl) ?_
          refine lw_nil ?_
          refine cw_ret ?_
          refine res1 (v := .bool _) rfl rfl ?_
          exact ⟨_, rfl, ret_b (decide_eq_true rfl), hs.nil⟩
        · skip
          obtain ⟨k2, e2, hw2, hr2, hc2, hd2⟩ := pt1.jwrite (l := [1, 2, 3, n]) rfl (by omega)
          obtain ⟨_, rfl, _, _, hp2⟩ := hd2.resolve_right (fun h => h.elim (fun h => h.2.2.2.1 ha1) (fun h => by rw [hl3] at h; cases h.1))
          refine cw_region ?_
          first | refine lw_val rfl (run_move (v := .pointer (some _)) rfl) ?_ | refine lw_val rfl (run_move (v := .pointer none) rfl) ?_
          first | refine lw_val rfl (run_loadRow hs 0 rfl Tryd.underlying50 sz50 rfl) ?_ | refine lw_val rfl (run_loadRow hs 1 rfl Tryd.underlying50 sz50 rfl) ?_ | refine lw_val rfl (run_loadRow hs 2 rfl Tryd.underlying50 sz50 rfl) ?_ | refine lw_val rfl (run_loadRow hs 3 rfl Tryd.underlying50 sz50 rfl) ?_ | refine lw_val rfl (run_loadRow hs 4 rfl Tryd.underlying50 sz50 rfl) ?_ | refine lw_val rfl (run_loadRow hs 5 rfl Tryd.underlying50 sz50 rfl) ?_ | refine lw_val rfl (run_loadRow hs 6 rfl Tryd.underlying50 sz50 rfl) ?_ | refine lw_val rfl (run_loadRow hs 7 rfl Tryd.underlying50 sz50 rfl) ?_ | refine lw_val rfl (run_loadRow hs 8 rfl Tryd.underlying50 sz50 rfl) ?_ | refine lw_val rfl (run_loadRow hs 9 rfl Tryd.underlying50 sz50 rfl) ?_ | refine lw_val rfl (run_loadRow hs 10 rfl Tryd.underlying50 sz50 rfl) ?_ | refine lw_val rfl (run_loadRow hs 11 rfl Tryd.underlying50 sz50 rfl) ?_ | refine lw_val rfl (run_loadRow hs 12 rfl Tryd.underlying50 sz50 rfl) ?_ | refine lw_val rfl (run_loadRow hs 13 rfl Tryd.underlying50 sz50 rfl) ?_
          refine lw_call rfl en32 (jwrite_sl hE (d := e1) (L := cells _ _ _ :: cells _ _ _ :: []) (by omega) (hs.arr [1, 0, 2] 3 (by decide)) i1 i2 i3 hn hw2) ?_
          clear hs
          rintro _ w ⟨rfl, hs⟩
          first | refine lw_val rfl (run_assign (v := errV ad _) rfl) ?_ | refine lw_val rfl (run_assign (v := .nilIface) rfl) ?_ | refine lw_val rfl (run_assign (v := eV ad _ _) rfl) ?_ | refine lw_val rfl (run_assign (v := .iface _ (.pointer (some _))) rfl) ?_
          refine lw_nil ?_
          refine cw_seq ?_
          obtain ⟨hok2, _⟩ := hs.openD
          have pt2 := hp2 hok2
          refine cw_region ?_
          first | refine lw_val rfl (run_move (v := .pointer (some _)) rfl) ?_ | refine lw_val rfl (run_move (v := .pointer none) rfl) ?_
          refine lw_call rfl en28 (jread_sl hE hs (j := (0, true, 1, 2, 3, n)) (pt2.jread (upU _ _) (all_I hl3) hl3)) ?_
          clear hs
          rintro _ w ⟨rfl, hs⟩
          first | refine lw_val rfl (run_move (v := .tuple _) rfl) ?_
          first | refine lw_val rfl (run_extract (v := .agg _) rfl rfl) ?_
          first | refine lw_val rfl (run_extract (v := .bool _) rfl rfl) ?_
          first | refine lw_val rfl (run_extract (v := errV ad _) rfl rfl) ?_ | refine lw_val rfl (run_extract (v := .nilIface) rfl rfl) ?_ | refine lw_val rfl (run_extract (v := eV ad _ _) rfl rfl) ?_ | refine lw_val rfl (run_extract (v := .iface _ (.pointer (some _))) rfl rfl) ?_
          refine lw_alloc hs rfl ze50 ?_
          clear hs
          intro b11 w hs
          try simp only [List.set_cons_succ, List.set_cons_zero] at hs
          first | refine lw_storeRow hs 0 rfl rfl rfl sz50 rfl rfl ?_ | refine lw_storeRow hs 1 rfl rfl rfl sz50 rfl rfl ?_ | refine lw_storeRow hs 2 rfl rfl rfl sz50 rfl rfl ?_ | refine lw_storeRow hs 3 rfl rfl rfl sz50 rfl rfl ?_ | refine lw_storeRow hs 4 rfl rfl rfl sz50 rfl rfl ?_ | refine lw_storeRow hs 5 rfl rfl rfl sz50 rfl rfl ?_ | refine lw_storeRow hs 6 rfl rfl rfl sz50 rfl rfl ?_ | refine lw_storeRow hs 7 rfl rfl rfl sz50 rfl rfl ?_ | refine lw_storeRow hs 8 rfl rfl rfl sz50 rfl rfl ?_ | refine lw_storeRow hs 9 rfl rfl rfl sz50 rfl rfl ?_ | refine lw_storeRow hs 10 rfl rfl rfl sz50 rfl rfl ?_ | refine lw_storeRow hs 11 rfl rfl rfl sz50 rfl rfl ?_ | refine lw_storeRow hs 12 rfl rfl rfl sz50 rfl rfl ?_ | refine lw_storeRow hs 13 rfl rfl rfl sz50 rfl rfl ?_
          clear hs
          intro w hs
          try simp only [List.set_cons_succ, List.set_cons_zero] at hs
          first | refine lw_val rfl (run_assign (v := .bool _) rfl) ?_
          first | refine lw_val rfl (run_assign (v := errV ad _) rfl) ?_ | refine lw_val rfl (run_assign (v := .nilIface) rfl) ?_ | refine lw_val rfl (run_assign (v := eV ad _ _) rfl) ?_ | refine lw_val rfl (run_assign (v := .iface _ (.pointer (some _))) rfl) ?_
          refine lw_nil ?_
          refine cw_seq ?_
          refine cw_seq ?_
          refine cw_region ?_
          first | refine lw_val rfl (run_move (v := .int .i64 _) rfl) ?_
          refine lw_call rfl en33 (right_sl hs n) ?_
          clear hs
          rintro _ w ⟨rfl, hs⟩
          refine lw_val rfl (run_not rfl) ?_
          refine lw_nil ?_
          refine cw_iff rfl (not_f (hin)) ?_
          refine cw_skip ?_
          refine cw_seq ?_
          refine cw_region ?_
          first | refine lw_val rfl (run_move (v := .bool _) rfl) ?_
          first | refine lw_val rfl (run_move (v := .bool _) rfl) ?_
          refine lw_on rfl rfl (rfl) ?_
          first | refine lw_val rfl (run_move (v := errV ad _) rfl) ?_ | refine lw_val rfl (run_move (v := .nilIface) rfl) ?_ | refine lw_val rfl (run_move (v := eV ad _ _) rfl) ?_ | refine lw_val rfl (run_move (v := .iface _ (.pointer (some _))) rfl) ?_
          refine lw_on rfl rfl (rfl) ?_
          first | refine lw_val rfl (run_eqerrn (ad := ad) rfl) ?_ | refine lw_val rfl (run_eqnn rfl) ?_ | refine lw_val rfl (run_eqE (ad := ad) rfl) ?_
          first | refine lw_val rfl (run_pickT (v := .bool _) rfl (rfl) rfl) ?_
          first | refine lw_val rfl (run_move (v := .bool _) rfl) ?_
          refine lw_on rfl rfl (rfl) ?_
          first | refine lw_val rfl (run_move (v := .bool _) rfl) ?_
          first | refine lw_val rfl (run_pickT (v := .bool _) rfl (rfl) rfl) ?_
          first | refine lw_val rfl (run_move (v := .bool _) rfl) ?_
          refine lw_on rfl rfl (rfl) ?_
          first | refine lw_val rfl (run_move (v := errV ad _) rfl) ?_ | refine lw_val rfl (run_move (v := .nilIface) rfl) ?_ | refine lw_val rfl (run_move (v := eV ad _ _) rfl) ?_ | refine lw_val rfl (run_move (v := .iface _ (.pointer (some _))) rfl) ?_
          refine lw_on rfl rfl (rfl) ?_
          first | refine lw_val rfl (run_eqerrn (ad := ad) rfl) ?_ | refine lw_val rfl (run_eqnn rfl) ?_ | refine lw_val rfl (run_eqE (ad := ad) rfl) ?_
          first | refine lw_val rfl (run_pickT (v := .bool _) rfl (rfl) rfl) ?_
          first | refine lw_val rfl (run_move (v := .bool _) rfl) ?_
          refine lw_on rfl rfl (rfl) ?_
          first | refine lw_val rfl (run_loadRow hs 0 rfl Tryd.underlying50 sz50 rfl) ?_ | refine lw_val rfl (run_loadRow hs 1 rfl Tryd.underlying50 sz50 rfl) ?_ | refine lw_val rfl (run_loadRow hs 2 rfl Tryd.underlying50 sz50 rfl) ?_ | refine lw_val rfl (run_loadRow hs 3 rfl Tryd.underlying50 sz50 rfl) ?_ | refine lw_val rfl (run_loadRow hs 4 rfl Tryd.underlying50 sz50 rfl) ?_ | refine lw_val rfl (run_loadRow hs 5 rfl Tryd.underlying50 sz50 rfl) ?_ | refine lw_val rfl (run_loadRow hs 6 rfl Tryd.underlying50 sz50 rfl) ?_ | refine lw_val rfl (run_loadRow hs 7 rfl Tryd.underlying50 sz50 rfl) ?_ | refine lw_val rfl (run_loadRow hs 8 rfl Tryd.underlying50 sz50 rfl) ?_ | refine lw_val rfl (run_loadRow hs 9 rfl Tryd.underlying50 sz50 rfl) ?_ | refine lw_val rfl (run_loadRow hs 10 rfl Tryd.underlying50 sz50 rfl) ?_ | refine lw_val rfl (run_loadRow hs 11 rfl Tryd.underlying50 sz50 rfl) ?_ | refine lw_val rfl (run_loadRow hs 12 rfl Tryd.underlying50 sz50 rfl) ?_ | refine lw_val rfl (run_loadRow hs 13 rfl Tryd.underlying50 sz50 rfl) ?_
          refine lw_on rfl rfl (rfl) ?_
          first | refine lw_val rfl (run_loadRow hs 0 rfl Tryd.underlying50 sz50 rfl) ?_ | refine lw_val rfl (run_loadRow hs 1 rfl Tryd.underlying50 sz50 rfl) ?_ | refine lw_val rfl (run_loadRow hs 2 rfl Tryd.underlying50 sz50 rfl) ?_ | refine lw_val rfl (run_loadRow hs 3 rfl Tryd.underlying50 sz50 rfl) ?_ | refine lw_val rfl (run_loadRow hs 4 rfl Tryd.underlying50 sz50 rfl) ?_ | refine lw_val rfl (run_loadRow hs 5 rfl Tryd.underlying50 sz50 rfl) ?_ | refine lw_val rfl (run_loadRow hs 6 rfl Tryd.underlying50 sz50 rfl) ?_ | refine lw_val rfl (run_loadRow hs 7 rfl Tryd.underlying50 sz50 rfl) ?_ | refine lw_val rfl (run_loadRow hs 8 rfl Tryd.underlying50 sz50 rfl) ?_ | refine lw_val rfl (run_loadRow hs 9 rfl Tryd.underlying50 sz50 rfl) ?_ | refine lw_val rfl (run_loadRow hs 10 rfl Tryd.underlying50 sz50 rfl) ?_ | refine lw_val rfl (run_loadRow hs 11 rfl Tryd.underlying50 sz50 rfl) ?_ | refine lw_val rfl (run_loadRow hs 12 rfl Tryd.underlying50 sz50 rfl) ?_ | refine lw_val rfl (run_loadRow hs 13 rfl Tryd.underlying50 sz50 rfl) ?_
          refine lw_on rfl rfl (rfl) ?_
          refine lw_call rfl en35 (same20_sl hs _ _ _ _ _ _ _ _) ?_
          clear hs
          rintro _ w ⟨rfl, hs⟩
          first | refine lw_val rfl (run_pickT (v := .bool _) rfl (rfl) rfl) ?_
          first | refine lw_val rfl (run_assign (v := .bool _) rfl) ?_
          refine lw_nil ?_
          refine cw_ret ?_
          refine res1 (v := .bool _) rfl rfl ?_
          exact ⟨_, rfl, ret_b (decide_eq_true rfl), hs.nil⟩
end Go.Proofs.YtmnfehbnjgmgjaaDoor
