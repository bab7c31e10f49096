/- The journal, over chunks. -/
import Derived.Test.YtmnfehbnjgmgjaaDoorVm
import Derived.Test.YtmnfehbnjgmgjaaDoorPt
namespace Go.Proofs.YtmnfehbnjgmgjaaDoor
set_option linter.all false
open Go.RowKit
attribute [local irreducible] errV eV
variable {g w : World} {L M : List HP} {ad : Nat → Addr} {p : Nat} {d : Dk}

def jourCodes : List Nat := [101, 102, 103, 104, 105, 106, 107, 108, 109, 110]
abbrev ErrJ (ad : Nat → Addr) (g : World) : Prop := Errs jourCodes ad g.heap.size g
def nUp : ByteArray := ⟨#[117, 112, 108, 111, 97, 100]⟩
def inR (z : Int) : Bool := decide (0 ≤ z) && decide (z ≤ 2147483647)
/-- What a journal's file says: the error's number, whether there is one, its numbers. -/
def jst (r : Nat × List UInt8) : Nat × Bool × Int × Int × Int × Int :=
  if r.1 = 110 then (110, false, 0, 0, 0, 0) else match rnums r.2 with
    | (0, [x, y, z, u]) => if r.1 = 0 ∧ [x, y, z, u].all inR = true then (0, true, x, y, z, u) else (0, false, 0, 0, 0, 0)
    | _ => (0, false, 0, 0, 0, 0)
theorem openL_code (b : List UInt8) : ((openL b).1 = 0 ∨ (openL b).1 = 101 ∨ (openL b).1 = 102) ∧ (openL b).2.length ≤ b.length := by
  unfold openL
  split
  · exact ⟨.inr (.inl rfl), Nat.zero_le _⟩
  · split
    · exact ⟨.inl rfl, by simp⟩
    · exact ⟨.inr (.inr rfl), Nat.zero_le _⟩
theorem Dk.readR_code (n : ByteArray) (x y : Int) (d : Dk) : (d.readR n x y).1 = 0 ∨ (d.readR n x y).1 = 105 ∨ (d.readR n x y).1 = 107 ∨ (d.readR n x y).1 = 110 := by
  unfold Dk.readR Dk.file
  cases d.down with
  | true => exact .inr (.inr (.inr rfl))
  | false =>
    cases aget d.names n with
    | none => exact .inr (.inr (.inl rfl))
    | some i =>
      simp only [Bool.false_eq_true, if_false]
      split
      · exact .inr (.inl rfl)
      · exact .inl rfl
theorem Dk.ok.pread_fine (h : d.ok) (n : ByteArray) : ((d.pread n).1 = 0 ∨ (d.pread n).1 ∈ jourCodes) ∧ (d.pread n).2.length ≤ 4194304 := by
  unfold Dk.pread
  have h1 := d.lenR_code n
  have h2 := d.readR_code n 0 ((d.lenR n).2 : Int)
  have h3 := openL_code (d.readR n 0 ((d.lenR n).2 : Int)).2
  have h4 := h.lenR_le n
  have h5 := readR_len (d := d) (n := n) (m := (d.lenR n).2) rfl h4
  split
  · refine ⟨.inr ?_, Nat.zero_le _⟩
    rcases h1 with h | h | h
    · contradiction
    · simp only [h]; decide
    · simp only [h]; decide
  · split
    · refine ⟨.inr ?_, Nat.zero_le _⟩
      rcases h2 with h | h | h | h
      · contradiction
      · simp only [h]; decide
      · simp only [h]; decide
      · simp only [h]; decide
    · refine ⟨?_, Nat.le_trans h3.2 h5⟩
      rcases h3.1 with h | h | h
      · exact .inl h
      · exact .inr (by rw [h]; decide)
      · exact .inr (by rw [h]; decide)
theorem inR_iff {z : Int} : inR z = true ↔ 0 ≤ z ∧ z ≤ 2147483647 := by simp [inR]
theorem jst_none {k k2 : Nat} {b : List UInt8} {l2 : List Int} (h2 : rnums b = (k2, l2)) (hk : k ≠ 110) (h : k ≠ 0 ∨ k2 ≠ 0 ∨ l2.length ≠ 4 ∨ ∃ z ∈ l2, inR z = false) : jst (k, b) = (0, false, 0, 0, 0, 0) := by
  simp only [jst, if_neg hk, h2]
  split
  · rename_i x y z u he
    cases he
    rw [if_neg]
    rintro ⟨e1, e2⟩
    rcases h with h | h | h | ⟨q, hq, h⟩
    · exact h e1
    · exact h rfl
    · exact h rfl
    · have := List.all_eq_true.1 e2 q hq
      rw [h] at this
      cases this
  · rfl
theorem jst_some {x y z u : Int} {b : List UInt8} (h2 : rnums b = (0, [x, y, z, u])) (h : [x, y, z, u].all inR = true) : jst (0, b) = (0, true, x, y, z, u) := by
  simp only [jst, h2, if_neg (show ¬ (0 : Nat) = 110 by decide), h, and_self, if_true]
theorem list4 {l : List Int} (h : l.length = 4) : ∃ x y z u, l = [x, y, z, u] := by
  match l, h with
  | [x, y, z, u], _ => exact ⟨x, y, z, u, rfl⟩
def jV (j : Nat × Bool × Int × Int × Int × Int) : Value := .agg #[.int .i64 j.2.2.1, .int .i64 j.2.2.2.1, .int .i64 j.2.2.2.2.1, .int .i64 j.2.2.2.2.2]
set_option maxRecDepth 100000 in
theorem jread_sl (hE : ErrJ ad g) (hs : Mem g w (DiskC p d :: L)) {j : Nat × Bool × Int × Int × Int × Int} (hj : jst (d.pread nUp) = j) :
    Calls Tryd.prog 28 #[.pointer (some ⟨p, 0, none⟩)] w (Ret fun v w' => v = .tuple #[jV j, .bool j.2.1, errV ad j.1] ∧ Mem g w' (DiskC p d :: L)) := by
  have hP : ErrP ad g := hE.sub (by decide)
  have hW : ErrW ad g := hE.sub (by decide)
  obtain ⟨ho, _⟩ := hs.openD
  have hpf := ho.pread_fine nUp
  obtain ⟨k, b, hk⟩ : ∃ k b, d.pread nUp = (k, b) := ⟨_, _, rfl⟩
  rw [hk] at hj hpf
  obtain ⟨hkc, hbl⟩ := hpf
  simp only at hkc hbl
  obtain ⟨k2, l2, hk2⟩ : ∃ k2 l2, rnums b = (k2, l2) := ⟨_, _, rfl⟩
  refine calls_cw Tryd.func28 rfl rfl ?_
  skip
  refine cw_seq ?_
  refine cw_region ?_
  refine lw_alloc hs rfl ze50 ?_
  clear hs
  intro b2 w hs
  try simp only [List.set_cons_succ, List.set_cons_zero] at hs
  first | refine lw_val rfl (run_assign (v := .bool _) rfl) ?_
  first | refine lw_val rfl (run_assign (v := errV ad _) rfl) ?_ | refine lw_val rfl (run_assign (v := .nilIface) rfl) ?_ | refine lw_val rfl (run_assign (v := eV ad _ _) rfl) ?_ | refine lw_val rfl (run_assign (v := .iface _ (.pointer (some _))) rfl) ?_
  refine lw_nil ?_
  refine cw_seq ?_
  refine cw_region ?_
  first | refine lw_val rfl (run_move (v := .pointer (some _)) rfl) ?_ | refine lw_val rfl (run_move (v := .pointer none) rfl) ?_
  refine lw_call rfl en31 (pread_sl hP (hs.arr [1, 0] 2 (by decide)) nUp hk) ?_
  clear hs
  rintro _ w ⟨a13, c13, rfl, hs⟩
  first | refine lw_val rfl (run_move (v := .tuple _) rfl) ?_
  first | refine lw_val rfl (run_extract (v := .slice _ _ _) rfl rfl) ?_
  first | refine lw_val rfl (run_extract (v := errV ad _) rfl rfl) ?_ | refine lw_val rfl (run_extract (v := .nilIface) rfl rfl) ?_ | refine lw_val rfl (run_extract (v := eV ad _ _) rfl rfl) ?_ | refine lw_val rfl (run_extract (v := .iface _ (.pointer (some _))) rfl rfl) ?_
  first | refine lw_val rfl (run_assign (v := .slice _ _ _) rfl) ?_
  first | refine lw_val rfl (run_assign (v := errV ad _) rfl) ?_ | refine lw_val rfl (run_assign (v := .nilIface) rfl) ?_ | refine lw_val rfl (run_assign (v := eV ad _ _) rfl) ?_ | refine lw_val rfl (run_assign (v := .iface _ (.pointer (some _))) rfl) ?_
  refine lw_nil ?_
  refine cw_seq ?_
  refine cw_seq ?_
  refine cw_region ?_
  first | refine lw_val rfl (run_move (v := errV ad _) rfl) ?_ | refine lw_val rfl (run_move (v := .nilIface) rfl) ?_ | refine lw_val rfl (run_move (v := eV ad _ _) rfl) ?_ | refine lw_val rfl (run_move (v := .iface _ (.pointer (some _))) rfl) ?_
  refine lw_val rfl (run_load Tryd.underlying30 rfl rfl (hE.cellW hs 110 (by decide) rfl)) ?_
  refine lw_val rfl (run_eqerr (hE.atW hs) hkc (by decide) rfl rfl) ?_
  refine lw_nil ?_
  refine cw_if rfl ?_ ?_
  · intro h18
    have g18 := of_decide_eq_true h18
    have hz := of_decide_eq_true h18
    subst hz
    have hj2 : j = (110, false, 0, 0, 0, 0) := hj.symm
    subst hj2
    refine cw_seq ?_
    refine cw_region ?_
    refine lw_val rfl (run_build Tryd.underlying50 ze50 pl50 rfl) ?_
    first | refine lw_val rfl (run_move (v := errV ad _) rfl) ?_ | refine lw_val rfl (run_move (v := .nilIface) rfl) ?_ | refine lw_val rfl (run_move (v := eV ad _ _) rfl) ?_ | refine lw_val rfl (run_move (v := .iface _ (.pointer (some _))) rfl) ?_
    first | refine lw_storeRow hs 0 rfl rfl rfl sz50 rfl rfl ?_ | refine lw_storeRow hs 1 rfl rfl rfl sz50 rfl rfl ?_ | refine lw_storeRow hs 2 rfl rfl rfl sz50 rfl rfl ?_ | refine lw_storeRow hs 3 rfl rfl rfl sz50 rfl rfl ?_ | refine lw_storeRow hs 4 rfl rfl rfl sz50 rfl rfl ?_ | refine lw_storeRow hs 5 rfl rfl rfl sz50 rfl rfl ?_ | refine lw_storeRow hs 6 rfl rfl rfl sz50 rfl rfl ?_ | refine lw_storeRow hs 7 rfl rfl rfl sz50 rfl rfl ?_ | refine lw_storeRow hs 8 rfl rfl rfl sz50 rfl rfl ?_ | refine lw_storeRow hs 9 rfl rfl rfl sz50 rfl rfl ?_ | refine lw_storeRow hs 10 rfl rfl rfl sz50 rfl rfl ?_ | refine lw_storeRow hs 11 rfl rfl rfl sz50 rfl rfl ?_ | refine lw_storeRow hs 12 rfl rfl rfl sz50 rfl rfl ?_ | refine lw_storeRow hs 13 rfl rfl rfl sz50 rfl rfl ?_
    clear hs
    intro w hs
    try simp only [List.set_cons_succ, List.set_cons_zero] at hs
    first | refine lw_val rfl (run_assign (v := .bool _) rfl) ?_
    first | refine lw_val rfl (run_assign (v := errV ad _) rfl) ?_ | refine lw_val rfl (run_assign (v := .nilIface) rfl) ?_ | refine lw_val rfl (run_assign (v := eV ad _ _) rfl) ?_ | refine lw_val rfl (run_assign (v := .iface _ (.pointer (some _))) rfl) ?_
    refine lw_nil ?_
    refine cw_ret ?_
    first | refine resG [(.cell 2 50, .agg _), (.tmp 3, .bool _), (.tmp 4, errV ad _)] rfl ⟨⟨_, rfl, res_row hs 2 rfl Tryd.underlying50 sz50⟩, rfl, rfl, trivial⟩ ?_ | refine resG [(.cell 2 50, .agg _), (.tmp 3, .bool _), (.tmp 4, .nilIface)] rfl ⟨⟨_, rfl, res_row hs 2 rfl Tryd.underlying50 sz50⟩, rfl, rfl, trivial⟩ ?_ | refine resG [(.cell 2 50, .agg _), (.tmp 3, .bool _), (.tmp 4, eV ad _ _)] rfl ⟨⟨_, rfl, res_row hs 2 rfl Tryd.underlying50 sz50⟩, rfl, rfl, trivial⟩ ?_ | refine resG [(.cell 2 50, .agg _), (.tmp 3, .bool _), (.tmp 4, .iface _ (.pointer (some _)))] rfl ⟨⟨_, rfl, res_row hs 2 rfl Tryd.underlying50 sz50⟩, rfl, rfl, trivial⟩ ?_
    exact ⟨_, rfl, rfl, hs.arr [1] 3 (by decide)⟩
  · intro h18
    have g18 := of_decide_eq_false h18
    have hz := of_decide_eq_false h18
    refine cw_skip ?_
    refine cw_seq ?_
    refine cw_region ?_
    first | refine lw_val rfl (run_move (v := .slice _ _ _) rfl) ?_
    refine lw_call rfl en17 (rnums_sl hW hs (hs.rdOwn 0 rfl) rfl (by omega) hk2) ?_
    clear hs
    rintro _ w ⟨a23, c23, eb, rfl, hzi, hs⟩
    first | refine lw_val rfl (run_move (v := .tuple _) rfl) ?_
    first | refine lw_val rfl (run_extract (v := .slice _ _ _) rfl rfl) ?_
    first | refine lw_val rfl (run_extract (v := errV ad _) rfl rfl) ?_ | refine lw_val rfl (run_extract (v := .nilIface) rfl rfl) ?_ | refine lw_val rfl (run_extract (v := eV ad _ _) rfl rfl) ?_ | refine lw_val rfl (run_extract (v := .iface _ (.pointer (some _))) rfl rfl) ?_
    first | refine lw_val rfl (run_assign (v := .slice _ _ _) rfl) ?_
    first | refine lw_val rfl (run_assign (v := errV ad _) rfl) ?_ | refine lw_val rfl (run_assign (v := .nilIface) rfl) ?_ | refine lw_val rfl (run_assign (v := eV ad _ _) rfl) ?_ | refine lw_val rfl (run_assign (v := .iface _ (.pointer (some _))) rfl) ?_
    refine lw_nil ?_
    refine cw_seq ?_
    refine cw_seq ?_
    refine cw_region ?_
    first | refine lw_val rfl (run_move (v := errV ad _) rfl) ?_ | refine lw_val rfl (run_move (v := .nilIface) rfl) ?_ | refine lw_val rfl (run_move (v := eV ad _ _) rfl) ?_ | refine lw_val rfl (run_move (v := .iface _ (.pointer (some _))) rfl) ?_
    first | refine lw_val rfl (run_neerrn (ad := ad) rfl) ?_ | refine lw_val rfl (run_nenn rfl) ?_ | refine lw_val rfl (run_neE (ad := ad) rfl) ?_
    first | refine lw_val rfl (run_move (v := .bool _) rfl) ?_
    refine lw_split (t := _) (d := 28) rfl ?_ ?_
    · intro h27
      have g27 := ne_t h27
      have hj2 := (jst_none hk2 hz (.inl (by simpa using h27))).symm.trans hj
      subst hj2
      refine lw_off rfl rfl rfl h27 ?_
      refine lw_off rfl rfl rfl h27 ?_
      first | refine lw_val rfl (run_pickT (v := .bool _) rfl h27 rfl) ?_
      first | refine lw_val rfl (run_move (v := .bool _) rfl) ?_
      refine lw_off rfl rfl rfl rfl ?_
      refine lw_off rfl rfl rfl rfl ?_
      refine lw_off rfl rfl rfl rfl ?_
      first | refine lw_val rfl (run_pickT (v := .bool _) rfl rfl rfl) ?_
      refine lw_nil ?_
      refine cw_ift rfl rfl ?_
      refine cw_seq ?_
      refine cw_region ?_
      refine lw_val rfl (run_build Tryd.underlying50 ze50 pl50 rfl) ?_
      first | refine lw_storeRow hs 0 rfl rfl rfl sz50 rfl rfl ?_ | refine lw_storeRow hs 1 rfl rfl rfl sz50 rfl rfl ?_ | refine lw_storeRow hs 2 rfl rfl rfl sz50 rfl rfl ?_ | refine lw_storeRow hs 3 rfl rfl rfl sz50 rfl rfl ?_ | refine lw_storeRow hs 4 rfl rfl rfl sz50 rfl rfl ?_ | refine lw_storeRow hs 5 rfl rfl rfl sz50 rfl rfl ?_ | refine lw_storeRow hs 6 rfl rfl rfl sz50 rfl rfl ?_ | refine lw_storeRow hs 7 rfl rfl rfl sz50 rfl rfl ?_ | refine lw_storeRow hs 8 rfl rfl rfl sz50 rfl rfl ?_ | refine lw_storeRow hs 9 rfl rfl rfl sz50 rfl rfl ?_ | refine lw_storeRow hs 10 rfl rfl rfl sz50 rfl rfl ?_ | refine lw_storeRow hs 11 rfl rfl rfl sz50 rfl rfl ?_ | refine lw_storeRow hs 12 rfl rfl rfl sz50 rfl rfl ?_ | refine lw_storeRow hs 13 rfl rfl rfl sz50 rfl rfl ?_
      clear hs
      intro w hs
      try simp only [List.set_cons_succ, List.set_cons_zero] at hs
      first | refine lw_val rfl (run_assign (v := .bool _) rfl) ?_
      first | refine lw_val rfl (run_assign (v := errV ad _) rfl) ?_ | refine lw_val rfl (run_assign (v := .nilIface) rfl) ?_ | refine lw_val rfl (run_assign (v := eV ad _ _) rfl) ?_ | refine lw_val rfl (run_assign (v := .iface _ (.pointer (some _))) rfl) ?_
      refine lw_nil ?_
      refine cw_ret ?_
      first | refine resG [(.cell 2 50, .agg _), (.tmp 3, .bool _), (.tmp 4, errV ad _)] rfl ⟨⟨_, rfl, res_row hs 4 rfl Tryd.underlying50 sz50⟩, rfl, rfl, trivial⟩ ?_ | refine resG [(.cell 2 50, .agg _), (.tmp 3, .bool _), (.tmp 4, .nilIface)] rfl ⟨⟨_, rfl, res_row hs 4 rfl Tryd.underlying50 sz50⟩, rfl, rfl, trivial⟩ ?_ | refine resG [(.cell 2 50, .agg _), (.tmp 3, .bool _), (.tmp 4, eV ad _ _)] rfl ⟨⟨_, rfl, res_row hs 4 rfl Tryd.underlying50 sz50⟩, rfl, rfl, trivial⟩ ?_ | refine resG [(.cell 2 50, .agg _), (.tmp 3, .bool _), (.tmp 4, .iface _ (.pointer (some _)))] rfl ⟨⟨_, rfl, res_row hs 4 rfl Tryd.underlying50 sz50⟩, rfl, rfl, trivial⟩ ?_
      exact ⟨_, rfl, by rw [errV_zero]; rfl, hs.arr [3] 5 (by decide)⟩
    · intro h27
      have g27 := ne_f h27
      refine lw_on rfl rfl h27 ?_
      first | refine lw_val rfl (run_move (v := errV ad _) rfl) ?_ | refine lw_val rfl (run_move (v := .nilIface) rfl) ?_ | refine lw_val rfl (run_move (v := eV ad _ _) rfl) ?_ | refine lw_val rfl (run_move (v := .iface _ (.pointer (some _))) rfl) ?_
      refine lw_on rfl rfl h27 ?_
      first | refine lw_val rfl (run_neerrn (ad := ad) rfl) ?_ | refine lw_val rfl (run_nenn rfl) ?_ | refine lw_val rfl (run_neE (ad := ad) rfl) ?_
      first | refine lw_val rfl (run_pickF (v := .bool _) rfl h27 rfl) ?_
      first | refine lw_val rfl (run_move (v := .bool _) rfl) ?_
      refine lw_split (t := _) (d := 32) rfl ?_ ?_
      · intro h30
        have g30 := ne_t h30
        have hj2 := (jst_none hk2 hz (.inr (.inl (by simpa using h30)))).symm.trans hj
        subst hj2
        refine lw_off rfl rfl rfl h30 ?_
        refine lw_off rfl rfl rfl h30 ?_
        refine lw_off rfl rfl rfl h30 ?_
        first | refine lw_val rfl (run_pickT (v := .bool _) rfl h30 rfl) ?_
        refine lw_nil ?_
        refine cw_ift rfl rfl ?_
        refine cw_seq ?_
        refine cw_region ?_
        refine lw_val rfl (run_build Tryd.underlying50 ze50 pl50 rfl) ?_
        first | refine lw_storeRow hs 0 rfl rfl rfl sz50 rfl rfl ?_ | refine lw_storeRow hs 1 rfl rfl rfl sz50 rfl rfl ?_ | refine lw_storeRow hs 2 rfl rfl rfl sz50 rfl rfl ?_ | refine lw_storeRow hs 3 rfl rfl rfl sz50 rfl rfl ?_ | refine lw_storeRow hs 4 rfl rfl rfl sz50 rfl rfl ?_ | refine lw_storeRow hs 5 rfl rfl rfl sz50 rfl rfl ?_ | refine lw_storeRow hs 6 rfl rfl rfl sz50 rfl rfl ?_ | refine lw_storeRow hs 7 rfl rfl rfl sz50 rfl rfl ?_ | refine lw_storeRow hs 8 rfl rfl rfl sz50 rfl rfl ?_ | refine lw_storeRow hs 9 rfl rfl rfl sz50 rfl rfl ?_ | refine lw_storeRow hs 10 rfl rfl rfl sz50 rfl rfl ?_ | refine lw_storeRow hs 11 rfl rfl rfl sz50 rfl rfl ?_ | refine lw_storeRow hs 12 rfl rfl rfl sz50 rfl rfl ?_ | refine lw_storeRow hs 13 rfl rfl rfl sz50 rfl rfl ?_
        clear hs
        intro w hs
        try simp only [List.set_cons_succ, List.set_cons_zero] at hs
        first | refine lw_val rfl (run_assign (v := .bool _) rfl) ?_
        first | refine lw_val rfl (run_assign (v := errV ad _) rfl) ?_ | refine lw_val rfl (run_assign (v := .nilIface) rfl) ?_ | refine lw_val rfl (run_assign (v := eV ad _ _) rfl) ?_ | refine lw_val rfl (run_assign (v := .iface _ (.pointer (some _))) rfl) ?_
        refine lw_nil ?_
        refine cw_ret ?_
        first | refine resG [(.cell 2 50, .agg _), (.tmp 3, .bool _), (.tmp 4, errV ad _)] rfl ⟨⟨_, rfl, res_row hs 4 rfl Tryd.underlying50 sz50⟩, rfl, rfl, trivial⟩ ?_ | refine resG [(.cell 2 50, .agg _), (.tmp 3, .bool _), (.tmp 4, .nilIface)] rfl ⟨⟨_, rfl, res_row hs 4 rfl Tryd.underlying50 sz50⟩, rfl, rfl, trivial⟩ ?_ | refine resG [(.cell 2 50, .agg _), (.tmp 3, .bool _), (.tmp 4, eV ad _ _)] rfl ⟨⟨_, rfl, res_row hs 4 rfl Tryd.underlying50 sz50⟩, rfl, rfl, trivial⟩ ?_ | refine resG [(.cell 2 50, .agg _), (.tmp 3, .bool _), (.tmp 4, .iface _ (.pointer (some _)))] rfl ⟨⟨_, rfl, res_row hs 4 rfl Tryd.underlying50 sz50⟩, rfl, rfl, trivial⟩ ?_
        exact ⟨_, rfl, by rw [errV_zero]; rfl, hs.arr [3] 5 (by decide)⟩
      · intro h30
        have g30 := ne_f h30
        refine lw_on rfl rfl h30 ?_
        first | refine lw_val rfl (run_move (v := .slice _ _ _) rfl) ?_
        refine lw_on rfl rfl h30 ?_
        refine lw_val rfl (run_lenS Tryd.underlying22 rfl) ?_
        refine lw_on rfl rfl h30 ?_
        refine lw_val rfl (run_nei rfl rfl) ?_
        first | refine lw_val rfl (run_pickF (v := .bool _) rfl h30 rfl) ?_
        refine lw_nil ?_
        refine cw_if rfl ?_ ?_
        · intro h35
          have g35 := ne_t h35
          have hj2 := (jst_none hk2 hz (.inr (.inr (.inl (by omega))))).symm.trans hj
          subst hj2
          refine cw_seq ?_
          refine cw_region ?_
          refine lw_val rfl (run_build Tryd.underlying50 ze50 pl50 rfl) ?_
          first | refine lw_storeRow hs 0 rfl rfl rfl sz50 rfl rfl ?_ | refine lw_storeRow hs 1 rfl rfl rfl sz50 rfl rfl ?_ | refine lw_storeRow hs 2 rfl rfl rfl sz50 rfl rfl ?_ | refine lw_storeRow hs 3 rfl rfl rfl sz50 rfl rfl ?_ | refine lw_storeRow hs 4 rfl rfl rfl sz50 rfl rfl ?_ | refine lw_storeRow hs 5 rfl rfl rfl sz50 rfl rfl ?_ | refine lw_storeRow hs 6 rfl rfl rfl sz50 rfl rfl ?_ | refine lw_storeRow hs 7 rfl rfl rfl sz50 rfl rfl ?_ | refine lw_storeRow hs 8 rfl rfl rfl sz50 rfl rfl ?_ | refine lw_storeRow hs 9 rfl rfl rfl sz50 rfl rfl ?_ | refine lw_storeRow hs 10 rfl rfl rfl sz50 rfl rfl ?_ | refine lw_storeRow hs 11 rfl rfl rfl sz50 rfl rfl ?_ | refine lw_storeRow hs 12 rfl rfl rfl sz50 rfl rfl ?_ | refine lw_storeRow hs 13 rfl rfl rfl sz50 rfl rfl ?_
          clear hs
          intro w hs
          try simp only [List.set_cons_succ, List.set_cons_zero] at hs
          first | refine lw_val rfl (run_assign (v := .bool _) rfl) ?_
          first | refine lw_val rfl (run_assign (v := errV ad _) rfl) ?_ | refine lw_val rfl (run_assign (v := .nilIface) rfl) ?_ | refine lw_val rfl (run_assign (v := eV ad _ _) rfl) ?_ | refine lw_val rfl (run_assign (v := .iface _ (.pointer (some _))) rfl) ?_
          refine lw_nil ?_
          refine cw_ret ?_
          first | refine resG [(.cell 2 50, .agg _), (.tmp 3, .bool _), (.tmp 4, errV ad _)] rfl ⟨⟨_, rfl, res_row hs 4 rfl Tryd.underlying50 sz50⟩, rfl, rfl, trivial⟩ ?_ | refine resG [(.cell 2 50, .agg _), (.tmp 3, .bool _), (.tmp 4, .nilIface)] rfl ⟨⟨_, rfl, res_row hs 4 rfl Tryd.underlying50 sz50⟩, rfl, rfl, trivial⟩ ?_ | refine resG [(.cell 2 50, .agg _), (.tmp 3, .bool _), (.tmp 4, eV ad _ _)] rfl ⟨⟨_, rfl, res_row hs 4 rfl Tryd.underlying50 sz50⟩, rfl, rfl, trivial⟩ ?_ | refine resG [(.cell 2 50, .agg _), (.tmp 3, .bool _), (.tmp 4, .iface _ (.pointer (some _)))] rfl ⟨⟨_, rfl, res_row hs 4 rfl Tryd.underlying50 sz50⟩, rfl, rfl, trivial⟩ ?_
          exact ⟨_, rfl, by rw [errV_zero]; rfl, hs.arr [3] 5 (by decide)⟩
        · intro h35
          have g35 := ne_f h35
          have hk0 : k = 0 := by simpa using h27
          have hk20 : k2 = 0 := by simpa using h30
          subst hk0 hk20
          obtain ⟨x0, x1, x2, x3, rfl⟩ := list4 (show l2.length = 4 by omega)
          obtain ⟨q0, o0, rfl, _⟩ := hs.ownCells 0 rfl (by simp [intsL])
          refine cw_skip ?_
          refine cw_seq ?_
          refine cw_seq ?_
          refine cw_region ?_
          first | refine lw_val rfl (run_move (v := .slice _ _ _) rfl) ?_
          refine lw_val rfl (run_lenS Tryd.underlying22 rfl) ?_
          first | refine lw_val rfl (run_move (v := .int .i64 _) rfl) ?_
          refine lw_nil ?_
          refine cw_block ?_
          refine cw_loop (X := Nat) [3, 4, 10, 40, 41, 42, 43, 44, 45, 46, 47, 48, 49, 50, 51] (fun x => [(40, .int .i64 (x : Nat))]) (fun x w => x ≤ 4 ∧ (∀ z ∈ [x0, x1, x2, x3].take x, inR z = true) ∧ Mem g w (own (.slice (some ⟨q0, o0, none⟩) [x0, x1, x2, x3].length c23) (intsL [x0, x1, x2, x3]) :: errC ad eb (rnAt b) 0 :: own (.slice a13 b.length c13) (bytesL b) :: DiskC p d :: cells b2 [.int .i64 0, .int .i64 0, .int .i64 0, .int .i64 0] 50 :: L)) (fun x => 4 - x) (0) ?_ ?_ ?_
          · exact ⟨rfl, trivial⟩
          · exact ⟨Nat.zero_le _, fun z hz => by simp at hz, hs⟩
          clear hs
          rintro x ξ w hI
          obtain ⟨hx4, hall, hs⟩ := hI
          have hx4 : x ≤ 4 := hx4
          show cw _ _ _ _ _ _ (updL (mix _ ξ _) [(40, .int .i64 (x : Nat))]) w
          refine cw_seq ?_
          refine cw_region ?_
          refine lw_val rfl (run_lss rfl rfl) ?_
          refine lw_nil ?_
          refine cw_seq ?_
          refine cw_if rfl ?_ ?_
          · intro h41
            have g41 := of_decide_eq_true h41
            obtain ⟨z, hz4⟩ : ∃ z, [x0, x1, x2, x3][x]? = some z := ⟨_, List.getElem?_eq_getElem (by simp at g41 ⊢; omega)⟩
            have hzm := List.mem_of_getElem? hz4
            have hx3 : x < 4 := by simp at g41; omega
            refine cw_skip ?_
            refine cw_seq ?_
            refine cw_block ?_
            refine cw_seq ?_
            refine cw_region ?_
            refine lw_val rfl (run_indexAddr Tryd.underlying22 sz2 rfl rfl rfl (by simp at g41 ⊢; omega) rfl) ?_
            refine lw_val rfl (run_load (v := .int .i64 z) Tryd.underlying2 rfl rfl (hs.ownAt 0 rfl (intsL_at hz4))) ?_
            first | refine lw_val rfl (run_assign (v := .int .i64 _) rfl) ?_
            refine lw_nil ?_
            refine cw_seq ?_
            refine cw_region ?_
            first | refine lw_val rfl (run_move (v := .int .i64 _) rfl) ?_
            refine lw_val rfl (run_lss rfl rfl) ?_
            first | refine lw_val rfl (run_move (v := .bool _) rfl) ?_
            refine lw_split (t := _) (d := 46) rfl ?_ ?_
            · intro h45
              have g45 := of_decide_eq_true h45
              have hj2 := (jst_none hk2 hz (.inr (.inr (.inr ⟨z, hzm, by simp [inR]; omega⟩)))).symm.trans hj
              subst hj2
              refine lw_off rfl rfl rfl h45 ?_
              refine lw_off rfl rfl rfl h45 ?_
              first | refine lw_val rfl (run_pickT (v := .bool _) rfl h45 rfl) ?_
              refine lw_nil ?_
              refine cw_ift rfl rfl ?_
              refine cw_seq ?_
              refine cw_region ?_
              refine lw_val rfl (run_build Tryd.underlying50 ze50 pl50 rfl) ?_
              first | refine lw_storeRow hs 0 rfl rfl rfl sz50 rfl rfl ?_ | refine lw_storeRow hs 1 rfl rfl rfl sz50 rfl rfl ?_ | refine lw_storeRow hs 2 rfl rfl rfl sz50 rfl rfl ?_ | refine lw_storeRow hs 3 rfl rfl rfl sz50 rfl rfl ?_ | refine lw_storeRow hs 4 rfl rfl rfl sz50 rfl rfl ?_ | refine lw_storeRow hs 5 rfl rfl rfl sz50 rfl rfl ?_ | refine lw_storeRow hs 6 rfl rfl rfl sz50 rfl rfl ?_ | refine lw_storeRow hs 7 rfl rfl rfl sz50 rfl rfl ?_ | refine lw_storeRow hs 8 rfl rfl rfl sz50 rfl rfl ?_ | refine lw_storeRow hs 9 rfl rfl rfl sz50 rfl rfl ?_ | refine lw_storeRow hs 10 rfl rfl rfl sz50 rfl rfl ?_ | refine lw_storeRow hs 11 rfl rfl rfl sz50 rfl rfl ?_ | refine lw_storeRow hs 12 rfl rfl rfl sz50 rfl rfl ?_ | refine lw_storeRow hs 13 rfl rfl rfl sz50 rfl rfl ?_
              clear hs
              intro w hs
              try simp only [List.set_cons_succ, List.set_cons_zero] at hs
              first | refine lw_val rfl (run_assign (v := .bool _) rfl) ?_
              first | refine lw_val rfl (run_assign (v := errV ad _) rfl) ?_ | refine lw_val rfl (run_assign (v := .nilIface) rfl) ?_ | refine lw_val rfl (run_assign (v := eV ad _ _) rfl) ?_ | refine lw_val rfl (run_assign (v := .iface _ (.pointer (some _))) rfl) ?_
              refine lw_nil ?_
              refine cw_ret ?_
              first | refine resG [(.cell 2 50, .agg _), (.tmp 3, .bool _), (.tmp 4, errV ad _)] rfl ⟨⟨_, rfl, res_row hs 4 rfl Tryd.underlying50 sz50⟩, rfl, rfl, trivial⟩ ?_ | refine resG [(.cell 2 50, .agg _), (.tmp 3, .bool _), (.tmp 4, .nilIface)] rfl ⟨⟨_, rfl, res_row hs 4 rfl Tryd.underlying50 sz50⟩, rfl, rfl, trivial⟩ ?_ | refine resG [(.cell 2 50, .agg _), (.tmp 3, .bool _), (.tmp 4, eV ad _ _)] rfl ⟨⟨_, rfl, res_row hs 4 rfl Tryd.underlying50 sz50⟩, rfl, rfl, trivial⟩ ?_ | refine resG [(.cell 2 50, .agg _), (.tmp 3, .bool _), (.tmp 4, .iface _ (.pointer (some _)))] rfl ⟨⟨_, rfl, res_row hs 4 rfl Tryd.underlying50 sz50⟩, rfl, rfl, trivial⟩ ?_
              exact ⟨_, rfl, by rw [errV_zero]; rfl, hs.arr [3] 5 (by decide)⟩
            · intro h45
              have g45 := of_decide_eq_false h45
              refine lw_on rfl rfl h45 ?_
              first | refine lw_val rfl (run_move (v := .int .i64 _) rfl) ?_
              refine lw_on rfl rfl h45 ?_
              refine lw_val rfl (run_gtr rfl rfl) ?_
              first | refine lw_val rfl (run_pickF (v := .bool _) rfl h45 rfl) ?_
              refine lw_nil ?_
              refine cw_if rfl ?_ ?_
              · intro h48
                have g48 := of_decide_eq_true h48
                have hj2 := (jst_none hk2 hz (.inr (.inr (.inr ⟨z, hzm, by simp [inR]; omega⟩)))).symm.trans hj
                subst hj2
                refine cw_seq ?_
                refine cw_region ?_
                refine lw_val rfl (run_build Tryd.underlying50 ze50 pl50 rfl) ?_
                first | refine lw_storeRow hs 0 rfl rfl rfl sz50 rfl rfl ?_ | refine lw_storeRow hs 1 rfl rfl rfl sz50 rfl rfl ?_ | refine lw_storeRow hs 2 rfl rfl rfl sz50 rfl rfl ?_ | refine lw_storeRow hs 3 rfl rfl rfl sz50 rfl rfl ?_ | refine lw_storeRow hs 4 rfl rfl rfl sz50 rfl rfl ?_ | refine lw_storeRow hs 5 rfl rfl rfl sz50 rfl rfl ?_ | refine lw_storeRow hs 6 rfl rfl rfl sz50 rfl rfl ?_ | refine lw_storeRow hs 7 rfl rfl rfl sz50 rfl rfl ?_ | refine lw_storeRow hs 8 rfl rfl rfl sz50 rfl rfl ?_ | refine lw_storeRow hs 9 rfl rfl rfl sz50 rfl rfl ?_ | refine lw_storeRow hs 10 rfl rfl rfl sz50 rfl rfl ?_ | refine lw_storeRow hs 11 rfl rfl rfl sz50 rfl rfl ?_ | refine lw_storeRow hs 12 rfl rfl rfl sz50 rfl rfl ?_ | refine lw_storeRow hs 13 rfl rfl rfl sz50 rfl rfl ?_
                clear hs
                intro w hs
                try simp only [List.set_cons_succ, List.set_cons_zero] at hs
                first | refine lw_val rfl (run_assign (v := .bool _) rfl) ?_
                first | refine lw_val rfl (run_assign (v := errV ad _) rfl) ?_ | refine lw_val rfl (run_assign (v := .nilIface) rfl) ?_ | refine lw_val rfl (run_assign (v := eV ad _ _) rfl) ?_ | refine lw_val rfl (run_assign (v := .iface _ (.pointer (some _))) rfl) ?_
                refine lw_nil ?_
                refine cw_ret ?_
                first | refine resG [(.cell 2 50, .agg _), (.tmp 3, .bool _), (.tmp 4, errV ad _)] rfl ⟨⟨_, rfl, res_row hs 4 rfl Tryd.underlying50 sz50⟩, rfl, rfl, trivial⟩ ?_ | refine resG [(.cell 2 50, .agg _), (.tmp 3, .bool _), (.tmp 4, .nilIface)] rfl ⟨⟨_, rfl, res_row hs 4 rfl Tryd.underlying50 sz50⟩, rfl, rfl, trivial⟩ ?_ | refine resG [(.cell 2 50, .agg _), (.tmp 3, .bool _), (.tmp 4, eV ad _ _)] rfl ⟨⟨_, rfl, res_row hs 4 rfl Tryd.underlying50 sz50⟩, rfl, rfl, trivial⟩ ?_ | refine resG [(.cell 2 50, .agg _), (.tmp 3, .bool _), (.tmp 4, .iface _ (.pointer (some _)))] rfl ⟨⟨_, rfl, res_row hs 4 rfl Tryd.underlying50 sz50⟩, rfl, rfl, trivial⟩ ?_
                exact ⟨_, rfl, by rw [errV_zero]; rfl, hs.arr [3] 5 (by decide)⟩
              · intro h48
                have g48 := of_decide_eq_false h48
                refine cw_skip ?_
                refine cw_region ?_
                refine lw_val rfl (run_add64 rfl rfl rfl (inI (by omega) (by omega))) ?_
                first | refine lw_val rfl (run_move (v := .int .i64 _) rfl) ?_
                refine lw_nil ?_
                exact ⟨x + 1, by omega, ⟨by omega, fun y hy => by rw [List.take_add_one, hz4] at hy; rcases List.mem_append.1 hy with h | h; exact hall y h; simp at h; subst h; exact inR_iff.2 ⟨by omega, by omega⟩, hs⟩, ⟨rfl, trivial⟩, by repeat (first | exact Out.mix _ _ _ | refine Out.updo rfl ?_ | refine Out.upd rfl ?_ | refine Out.mixIn rfl ?_)⟩
          · intro h41
            have g41 := of_decide_eq_false h41
            have hx3 : ¬ x < 4 := by simp at g41; omega
            obtain rfl : x = 4 := by omega
            have hj2 := (jst_some hk2 (List.all_eq_true.2 hall)).symm.trans hj
            subst hj2
            refine cw_exit rfl ?_
            refine cw_seq ?_
            refine cw_drawS mixes (hs.drop 4) ?_
            intro w tr hK
            replace hs := tr _ hs
            clear tr
            first | refine aw_take 0 rfl (by kernel_rfl) (by kernel_rfl) (by kernel_rfl) rfl (fun w hs => run_move (v := .slice _ _ _) rfl) hK ?_
            refine aw_take 1 rfl (by kernel_rfl) (by kernel_rfl) (by kernel_rfl) rfl (fun w hs => run_indexAddr Tryd.underlying22 sz2 rfl rfl rfl (show 0 < 4 by decide) rfl) hK ?_
            refine aw_take 2 rfl (by kernel_rfl) (by kernel_rfl) (by kernel_rfl) rfl (fun w hs => run_load Tryd.underlying2 rfl rfl (hs.ownAt 0 rfl (j := 0) rfl)) hK ?_
            first | refine aw_take 3 rfl (by kernel_rfl) (by kernel_rfl) (by kernel_rfl) rfl (fun w hs => run_move (v := .slice _ _ _) rfl) hK ?_
            refine aw_take 4 rfl (by kernel_rfl) (by kernel_rfl) (by kernel_rfl) rfl (fun w hs => run_indexAddr Tryd.underlying22 sz2 rfl rfl rfl (show 1 < 4 by decide) rfl) hK ?_
            refine aw_take 5 rfl (by kernel_rfl) (by kernel_rfl) (by kernel_rfl) rfl (fun w hs => run_load Tryd.underlying2 rfl rfl (hs.ownAt 0 rfl (j := 1) rfl)) hK ?_
            first | refine aw_take 6 rfl (by kernel_rfl) (by kernel_rfl) (by kernel_rfl) rfl (fun w hs => run_move (v := .slice _ _ _) rfl) hK ?_
            refine aw_take 7 rfl (by kernel_rfl) (by kernel_rfl) (by kernel_rfl) rfl (fun w hs => run_indexAddr Tryd.underlying22 sz2 rfl rfl rfl (show 2 < 4 by decide) rfl) hK ?_
            refine aw_take 8 rfl (by kernel_rfl) (by kernel_rfl) (by kernel_rfl) rfl (fun w hs => run_load Tryd.underlying2 rfl rfl (hs.ownAt 0 rfl (j := 2) rfl)) hK ?_
            first | refine aw_take 9 rfl (by kernel_rfl) (by kernel_rfl) (by kernel_rfl) rfl (fun w hs => run_move (v := .slice _ _ _) rfl) hK ?_
            refine aw_take 10 rfl (by kernel_rfl) (by kernel_rfl) (by kernel_rfl) rfl (fun w hs => run_indexAddr Tryd.underlying22 sz2 rfl rfl rfl (show 3 < 4 by decide) rfl) hK ?_
            refine aw_take 11 rfl (by kernel_rfl) (by kernel_rfl) (by kernel_rfl) rfl (fun w hs => run_load Tryd.underlying2 rfl rfl (hs.ownAt 0 rfl (j := 3) rfl)) hK ?_
            refine aw_take 12 rfl (by kernel_rfl) (by kernel_rfl) (by kernel_rfl) rfl (fun w hs => run_buildF ([.int .i64 x0, .int .i64 x1, .int .i64 x2, .int .i64 x3]) Tryd.underlying50 ze50 pl50 rfl (by simp [Value.cells]) rfl rfl) hK ?_
            refine aw_ready [13] (by kernel_rfl) (by simp) ?_
            refine ⟨⟨_, rfl, ?_⟩, trivial⟩
            first | refine lw_storeRow hs 0 rfl rfl rfl sz50 rfl rfl ?_ | refine lw_storeRow hs 1 rfl rfl rfl sz50 rfl rfl ?_ | refine lw_storeRow hs 2 rfl rfl rfl sz50 rfl rfl ?_ | refine lw_storeRow hs 3 rfl rfl rfl sz50 rfl rfl ?_ | refine lw_storeRow hs 4 rfl rfl rfl sz50 rfl rfl ?_ | refine lw_storeRow hs 5 rfl rfl rfl sz50 rfl rfl ?_ | refine lw_storeRow hs 6 rfl rfl rfl sz50 rfl rfl ?_ | refine lw_storeRow hs 7 rfl rfl rfl sz50 rfl rfl ?_ | refine lw_storeRow hs 8 rfl rfl rfl sz50 rfl rfl ?_ | refine lw_storeRow hs 9 rfl rfl rfl sz50 rfl rfl ?_ | refine lw_storeRow hs 10 rfl rfl rfl sz50 rfl rfl ?_ | refine lw_storeRow hs 11 rfl rfl rfl sz50 rfl rfl ?_ | refine lw_storeRow hs 12 rfl rfl rfl sz50 rfl rfl ?_ | refine lw_storeRow hs 13 rfl rfl rfl sz50 rfl rfl ?_
            clear hs
            intro w hs
            try simp only [List.set_cons_succ, List.set_cons_zero] at hs
            clear hK
            have hK := hs.drop 4
            refine lw_nil ⟨hK, ?_⟩
            first | refine aw_take 14 rfl (by kernel_rfl) (by kernel_rfl) (by kernel_rfl) rfl (fun w hs => run_assign (v := .bool _) rfl) hK ?_
            first | refine aw_take 15 rfl (by kernel_rfl) (by kernel_rfl) (by kernel_rfl) rfl (fun w hs => run_assign (v := errV ad _) rfl) hK ?_ | refine aw_take 15 rfl (by kernel_rfl) (by kernel_rfl) (by kernel_rfl) rfl (fun w hs => run_assign (v := .nilIface) rfl) hK ?_ | refine aw_take 15 rfl (by kernel_rfl) (by kernel_rfl) (by kernel_rfl) rfl (fun w hs => run_assign (v := eV ad _ _) rfl) hK ?_ | refine aw_take 15 rfl (by kernel_rfl) (by kernel_rfl) (by kernel_rfl) rfl (fun w hs => run_assign (v := .iface _ (.pointer (some _))) rfl) hK ?_
            refine aw_done (by kernel_rfl) ?_
            clear hK
            refine cw_ret ?_
            first | refine resG [(.cell 2 50, .agg _), (.tmp 3, .bool _), (.tmp 4, errV ad _)] rfl ⟨⟨_, rfl, res_row hs 4 rfl Tryd.underlying50 sz50⟩, rfl, rfl, trivial⟩ ?_ | refine resG [(.cell 2 50, .agg _), (.tmp 3, .bool _), (.tmp 4, .nilIface)] rfl ⟨⟨_, rfl, res_row hs 4 rfl Tryd.underlying50 sz50⟩, rfl, rfl, trivial⟩ ?_ | refine resG [(.cell 2 50, .agg _), (.tmp 3, .bool _), (.tmp 4, eV ad _ _)] rfl ⟨⟨_, rfl, res_row hs 4 rfl Tryd.underlying50 sz50⟩, rfl, rfl, trivial⟩ ?_ | refine resG [(.cell 2 50, .agg _), (.tmp 3, .bool _), (.tmp 4, .iface _ (.pointer (some _)))] rfl ⟨⟨_, rfl, res_row hs 4 rfl Tryd.underlying50 sz50⟩, rfl, rfl, trivial⟩ ?_
            exact ⟨_, rfl, by rw [errV_zero]; rfl, hs.arr [3] 5 (by decide)⟩
/-- Keeping it aside. -/
def Dk.jwrite (l : List Int) (d : Dk) : Nat × Dk := if l.all inR = true then d.write nUp (numsL l) else (105, d)
theorem jwrite_sl (hJ : ErrJ ad g) (hcl : d.calls < 900000) (hs : Mem g w (DiskC p d :: L)) {x0 x1 x2 x3 : Int} (h0 : InI64 x0) (h1 : InI64 x1) (h2 : InI64 x2) (h3 : InI64 x3) {k : Nat} {d2 : Dk} (hk : d.jwrite [x0, x1, x2, x3] = (k, d2)) :
    Calls Tryd.prog 32 #[.pointer (some ⟨p, 0, none⟩), .agg #[.int .i64 x0, .int .i64 x1, .int .i64 x2, .int .i64 x3]] w (Ret fun v w' => v = errV ad k ∧ Mem g w' (DiskC p d2 :: L)) := by
  have hE : ErrK ad g := hJ.sub (by decide)
  have hP : ErrP ad g := hJ.sub (by decide)
  have hl : ∀ z ∈ [x0, x1, x2, x3], InI64 z := fun z hz => by
    simp only [List.mem_cons, List.not_mem_nil, or_false] at hz
    rcases hz with rfl | rfl | rfl | rfl <;> assumption
  refine calls_cw Tryd.func32 rfl rfl ?_
  skip
  refine cw_seq ?_
  refine cw_region ?_
  first | refine lw_box (v := .agg _) hs rfl rfl ?_
  clear hs
  intro b3 w hs
  try simp only [List.set_cons_succ, List.set_cons_zero] at hs
  first | refine lw_val rfl (run_assign (v := errV ad _) rfl) ?_ | refine lw_val rfl (run_assign (v := .nilIface) rfl) ?_ | refine lw_val rfl (run_assign (v := eV ad _ _) rfl) ?_ | refine lw_val rfl (run_assign (v := .iface _ (.pointer (some _))) rfl) ?_
  refine lw_nil ?_
  refine cw_seq ?_
  refine cw_region ?_
  first | refine lw_val rfl (run_fieldAddr (o' := 0) Tryd.underlying50 rfl sz3 rfl rfl rfl) ?_ | refine lw_val rfl (run_fieldAddr Tryd.underlying50 rfl sz3 rfl rfl rfl) ?_
  first | refine lw_val rfl (run_load Tryd.underlying3 rfl rfl (hs.cellAt 0 rfl rfl)) ?_ | refine lw_val rfl (run_load Tryd.underlying3 rfl rfl (hs.cellAt 1 rfl rfl)) ?_ | refine lw_val rfl (run_load Tryd.underlying3 rfl rfl (hs.cellAt 2 rfl rfl)) ?_ | refine lw_val rfl (run_load Tryd.underlying3 rfl rfl (hs.cellAt 3 rfl rfl)) ?_ | refine lw_val rfl (run_load Tryd.underlying3 rfl rfl (hs.cellAt 4 rfl rfl)) ?_ | refine lw_val rfl (run_load Tryd.underlying3 rfl rfl (hs.cellAt 5 rfl rfl)) ?_ | refine lw_val rfl (run_load Tryd.underlying3 rfl rfl (hs.cellAt 6 rfl rfl)) ?_ | refine lw_val rfl (run_load Tryd.underlying3 rfl rfl (hs.cellAt 7 rfl rfl)) ?_ | refine lw_val rfl (run_load Tryd.underlying3 rfl rfl (hs.cellAt 8 rfl rfl)) ?_ | refine lw_val rfl (run_load Tryd.underlying3 rfl rfl (hs.cellAt 9 rfl rfl)) ?_ | refine lw_val rfl (run_load Tryd.underlying3 rfl rfl (hs.cellAt 10 rfl rfl)) ?_ | refine lw_val rfl (run_load Tryd.underlying3 rfl rfl (hs.cellAt 11 rfl rfl)) ?_ | refine lw_val rfl (run_load Tryd.underlying3 rfl rfl (hs.cellAt 12 rfl rfl)) ?_ | refine lw_val rfl (run_load Tryd.underlying3 rfl rfl (hs.cellAt 13 rfl rfl)) ?_
  first | refine lw_val rfl (run_fieldAddr (o' := 1) Tryd.underlying50 rfl sz3 rfl rfl rfl) ?_ | refine lw_val rfl (run_fieldAddr Tryd.underlying50 rfl sz3 rfl rfl rfl) ?_
  first | refine lw_val rfl (run_load Tryd.underlying3 rfl rfl (hs.cellAt 0 rfl rfl)) ?_ | refine lw_val rfl (run_load Tryd.underlying3 rfl rfl (hs.cellAt 1 rfl rfl)) ?_ | refine lw_val rfl (run_load Tryd.underlying3 rfl rfl (hs.cellAt 2 rfl rfl)) ?_ | refine lw_val rfl (run_load Tryd.underlying3 rfl rfl (hs.cellAt 3 rfl rfl)) ?_ | refine lw_val rfl (run_load Tryd.underlying3 rfl rfl (hs.cellAt 4 rfl rfl)) ?_ | refine lw_val rfl (run_load Tryd.underlying3 rfl rfl (hs.cellAt 5 rfl rfl)) ?_ | refine lw_val rfl (run_load Tryd.underlying3 rfl rfl (hs.cellAt 6 rfl rfl)) ?_ | refine lw_val rfl (run_load Tryd.underlying3 rfl rfl (hs.cellAt 7 rfl rfl)) ?_ | refine lw_val rfl (run_load Tryd.underlying3 rfl rfl (hs.cellAt 8 rfl rfl)) ?_ | refine lw_val rfl (run_load Tryd.underlying3 rfl rfl (hs.cellAt 9 rfl rfl)) ?_ | refine lw_val rfl (run_load Tryd.underlying3 rfl rfl (hs.cellAt 10 rfl rfl)) ?_ | refine lw_val rfl (run_load Tryd.underlying3 rfl rfl (hs.cellAt 11 rfl rfl)) ?_ | refine lw_val rfl (run_load Tryd.underlying3 rfl rfl (hs.cellAt 12 rfl rfl)) ?_ | refine lw_val rfl (run_load Tryd.underlying3 rfl rfl (hs.cellAt 13 rfl rfl)) ?_
  first | refine lw_val rfl (run_fieldAddr (o' := 2) Tryd.underlying50 rfl sz3 rfl rfl rfl) ?_ | refine lw_val rfl (run_fieldAddr Tryd.underlying50 rfl sz3 rfl rfl rfl) ?_
  first | refine lw_val rfl (run_load Tryd.underlying3 rfl rfl (hs.cellAt 0 rfl rfl)) ?_ | refine lw_val rfl (run_load Tryd.underlying3 rfl rfl (hs.cellAt 1 rfl rfl)) ?_ | refine lw_val rfl (run_load Tryd.underlying3 rfl rfl (hs.cellAt 2 rfl rfl)) ?_ | refine lw_val rfl (run_load Tryd.underlying3 rfl rfl (hs.cellAt 3 rfl rfl)) ?_ | refine lw_val rfl (run_load Tryd.underlying3 rfl rfl (hs.cellAt 4 rfl rfl)) ?_ | refine lw_val rfl (run_load Tryd.underlying3 rfl rfl (hs.cellAt 5 rfl rfl)) ?_ | refine lw_val rfl (run_load Tryd.underlying3 rfl rfl (hs.cellAt 6 rfl rfl)) ?_ | refine lw_val rfl (run_load Tryd.underlying3 rfl rfl (hs.cellAt 7 rfl rfl)) ?_ | refine lw_val rfl (run_load Tryd.underlying3 rfl rfl (hs.cellAt 8 rfl rfl)) ?_ | refine lw_val rfl (run_load Tryd.underlying3 rfl rfl (hs.cellAt 9 rfl rfl)) ?_ | refine lw_val rfl (run_load Tryd.underlying3 rfl rfl (hs.cellAt 10 rfl rfl)) ?_ | refine lw_val rfl (run_load Tryd.underlying3 rfl rfl (hs.cellAt 11 rfl rfl)) ?_ | refine lw_val rfl (run_load Tryd.underlying3 rfl rfl (hs.cellAt 12 rfl rfl)) ?_ | refine lw_val rfl (run_load Tryd.underlying3 rfl rfl (hs.cellAt 13 rfl rfl)) ?_
  first | refine lw_val rfl (run_fieldAddr (o' := 3) Tryd.underlying50 rfl sz3 rfl rfl rfl) ?_ | refine lw_val rfl (run_fieldAddr Tryd.underlying50 rfl sz3 rfl rfl rfl) ?_
  first | refine lw_val rfl (run_load Tryd.underlying3 rfl rfl (hs.cellAt 0 rfl rfl)) ?_ | refine lw_val rfl (run_load Tryd.underlying3 rfl rfl (hs.cellAt 1 rfl rfl)) ?_ | refine lw_val rfl (run_load Tryd.underlying3 rfl rfl (hs.cellAt 2 rfl rfl)) ?_ | refine lw_val rfl (run_load Tryd.underlying3 rfl rfl (hs.cellAt 3 rfl rfl)) ?_ | refine lw_val rfl (run_load Tryd.underlying3 rfl rfl (hs.cellAt 4 rfl rfl)) ?_ | refine lw_val rfl (run_load Tryd.underlying3 rfl rfl (hs.cellAt 5 rfl rfl)) ?_ | refine lw_val rfl (run_load Tryd.underlying3 rfl rfl (hs.cellAt 6 rfl rfl)) ?_ | refine lw_val rfl (run_load Tryd.underlying3 rfl rfl (hs.cellAt 7 rfl rfl)) ?_ | refine lw_val rfl (run_load Tryd.underlying3 rfl rfl (hs.cellAt 8 rfl rfl)) ?_ | refine lw_val rfl (run_load Tryd.underlying3 rfl rfl (hs.cellAt 9 rfl rfl)) ?_ | refine lw_val rfl (run_load Tryd.underlying3 rfl rfl (hs.cellAt 10 rfl rfl)) ?_ | refine lw_val rfl (run_load Tryd.underlying3 rfl rfl (hs.cellAt 11 rfl rfl)) ?_ | refine lw_val rfl (run_load Tryd.underlying3 rfl rfl (hs.cellAt 12 rfl rfl)) ?_ | refine lw_val rfl (run_load Tryd.underlying3 rfl rfl (hs.cellAt 13 rfl rfl)) ?_
  refine lw_buildSlice hs rfl ((intsL [x0, x1, x2, x3])) Tryd.underlying22 zs2 rfl (cells_one (intsL_one _)) rfl rfl rfl ?_
  clear hs
  intro b16 w hs
  try simp only [List.set_cons_succ, List.set_cons_zero] at hs
  first | refine lw_val rfl (run_assign (v := .slice _ _ _) rfl) ?_
  refine lw_nil ?_
  refine cw_seq ?_
  refine cw_seq ?_
  refine cw_region ?_
  first | refine lw_val rfl (run_move (v := .slice _ _ _) rfl) ?_
  refine lw_val rfl (run_lenS Tryd.underlying22 rfl) ?_
  first | refine lw_val rfl (run_move (v := .int .i64 _) rfl) ?_
  refine lw_nil ?_
  refine cw_block ?_
  refine cw_loop (X := Nat) [4, 7, 19, 20, 21, 22, 23, 24, 25, 26, 27, 28, 29, 30] (fun x => [(19, .int .i64 (x : Nat))]) (fun x w => x ≤ 4 ∧ (∀ z ∈ [x0, x1, x2, x3].take x, inR z = true) ∧ Mem g w (cells b16 (intsL [x0, x1, x2, x3]) 2 :: cells b3 [.int .i64 x0, .int .i64 x1, .int .i64 x2, .int .i64 x3] 50 :: DiskC p d :: L)) (fun x => 4 - x) (0) ?_ ?_ ?_
  · exact ⟨rfl, trivial⟩
  · exact ⟨Nat.zero_le _, fun z hz => by simp at hz, hs⟩
  clear hs
  rintro x ξ w hI
  obtain ⟨hx4, hall, hs⟩ := hI
  have hx4 : x ≤ 4 := hx4
  show cw _ _ _ _ _ _ (updL (mix _ ξ _) [(19, .int .i64 (x : Nat))]) w
  refine cw_seq ?_
  refine cw_region ?_
  refine lw_val rfl (run_lss rfl rfl) ?_
  refine lw_nil ?_
  refine cw_seq ?_
  refine cw_if rfl ?_ ?_
  · intro h20
    have g20 := of_decide_eq_true h20
    obtain ⟨z, hz4⟩ : ∃ z, [x0, x1, x2, x3][x]? = some z := ⟨_, List.getElem?_eq_getElem (by simp at g20 ⊢; omega)⟩
    have hzm := List.mem_of_getElem? hz4
    refine cw_skip ?_
    refine cw_seq ?_
    refine cw_block ?_
    refine cw_seq ?_
    refine cw_region ?_
    refine lw_val rfl (run_indexAddr Tryd.underlying22 sz2 rfl rfl rfl (by omega) rfl) ?_
    refine lw_val rfl (run_load (v := .int .i64 z) Tryd.underlying2 rfl rfl (hs.cellAt 0 rfl (by rw [Nat.zero_add]; exact intsL_at hz4))) ?_
    first | refine lw_val rfl (run_assign (v := .int .i64 _) rfl) ?_
    refine lw_nil ?_
    refine cw_seq ?_
    refine cw_region ?_
    first | refine lw_val rfl (run_move (v := .int .i64 _) rfl) ?_
    refine lw_val rfl (run_lss rfl rfl) ?_
    first | refine lw_val rfl (run_move (v := .bool _) rfl) ?_
    refine lw_split (t := _) (d := 25) rfl ?_ ?_
    · intro h24
      have g24 := of_decide_eq_true h24
      have hn : ¬ ([x0, x1, x2, x3].all inR = true) := fun h => by have := inR_iff.1 (List.all_eq_true.1 h z hzm); omega
      unfold Dk.jwrite at hk
      rw [if_neg hn] at hk
      cases hk
      refine lw_off rfl rfl rfl h24 ?_
      refine lw_off rfl rfl rfl h24 ?_
      first | refine lw_val rfl (run_pickT (v := .bool _) rfl h24 rfl) ?_
      refine lw_nil ?_
      refine cw_ift rfl rfl ?_
      refine cw_seq ?_
      refine cw_region ?_
      refine lw_val rfl (run_load Tryd.underlying30 rfl rfl (hE.cellW hs 105 (by decide) rfl)) ?_
      first | refine lw_val rfl (run_assign (v := errV ad _) rfl) ?_ | refine lw_val rfl (run_assign (v := .nilIface) rfl) ?_ | refine lw_val rfl (run_assign (v := eV ad _ _) rfl) ?_ | refine lw_val rfl (run_assign (v := .iface _ (.pointer (some _))) rfl) ?_
      refine lw_nil ?_
      refine cw_ret ?_
      first | refine res1 (v := errV ad _) rfl rfl ?_ | refine res1 (v := .nilIface) rfl rfl ?_ | refine res1 (v := eV ad _ _) rfl rfl ?_ | refine res1 (v := .iface _ (.pointer (some _))) rfl rfl ?_
      exact ⟨_, rfl, rfl, hs.suffix 2 rfl⟩
    · intro h24
      have g24 := of_decide_eq_false h24
      refine lw_on rfl rfl h24 ?_
      first | refine lw_val rfl (run_move (v := .int .i64 _) rfl) ?_
      refine lw_on rfl rfl h24 ?_
      refine lw_val rfl (run_gtr rfl rfl) ?_
      first | refine lw_val rfl (run_pickF (v := .bool _) rfl h24 rfl) ?_
      refine lw_nil ?_
      refine cw_if rfl ?_ ?_
      · intro h27
        have g27 := of_decide_eq_true h27
        have hn : ¬ ([x0, x1, x2, x3].all inR = true) := fun h => by have := inR_iff.1 (List.all_eq_true.1 h z hzm); omega
        unfold Dk.jwrite at hk
        rw [if_neg hn] at hk
        cases hk
        refine cw_seq ?_
        refine cw_region ?_
        refine lw_val rfl (run_load Tryd.underlying30 rfl rfl (hE.cellW hs 105 (by decide) rfl)) ?_
        first | refine lw_val rfl (run_assign (v := errV ad _) rfl) ?_ | refine lw_val rfl (run_assign (v := .nilIface) rfl) ?_ | refine lw_val rfl (run_assign (v := eV ad _ _) rfl) ?_ | refine lw_val rfl (run_assign (v := .iface _ (.pointer (some _))) rfl) ?_
        refine lw_nil ?_
        refine cw_ret ?_
        first | refine res1 (v := errV ad _) rfl rfl ?_ | refine res1 (v := .nilIface) rfl rfl ?_ | refine res1 (v := eV ad _ _) rfl rfl ?_ | refine res1 (v := .iface _ (.pointer (some _))) rfl rfl ?_
        exact ⟨_, rfl, rfl, hs.suffix 2 rfl⟩
      · intro h27
        have g27 := of_decide_eq_false h27
        refine cw_skip ?_
        refine cw_region ?_
        refine lw_val rfl (run_add64 rfl rfl rfl (inI (by omega) (by omega))) ?_
        first | refine lw_val rfl (run_move (v := .int .i64 _) rfl) ?_
        refine lw_nil ?_
        exact ⟨x + 1, by omega, ⟨by omega, fun y hy => by rw [List.take_add_one, hz4] at hy; rcases List.mem_append.1 hy with h | h; exact hall y h; simp at h; subst h; exact inR_iff.2 ⟨by omega, by omega⟩, hs⟩, ⟨rfl, trivial⟩, by repeat (first | exact Out.mix _ _ _ | refine Out.updo rfl ?_ | refine Out.upd rfl ?_ | refine Out.mixIn rfl ?_)⟩
  · intro h20
    have g20 := of_decide_eq_false h20
    obtain rfl : x = 4 := by omega
    unfold Dk.jwrite at hk
    rw [if_pos (show [x0, x1, x2, x3].all inR = true from List.all_eq_true.2 hall)] at hk
    have hnl := numsL_len [x0, x1, x2, x3]
    refine cw_exit rfl ?_
    refine cw_seq ?_
    refine cw_region ?_
    first | refine lw_val rfl (run_move (v := .pointer (some _)) rfl) ?_ | refine lw_val rfl (run_move (v := .pointer none) rfl) ?_
    first | refine lw_val rfl (run_move (v := .slice _ _ _) rfl) ?_
    refine lw_call rfl en14 (nums_sl hs (l := [x0, x1, x2, x3]) (Rd.cells (n := 4) 0 rfl rfl) rfl hl (by simp)) ?_
    clear hs
    rintro _ w ⟨a33, c33, rfl, hs⟩
    refine lw_call rfl en27 (write_sl (d := d) (L := [own _ _, cells _ _ _, cells _ _ _] ++ L) hE hcl (hs.arr [3, 0, 1, 2] 4 (by decide)) nUp (by decide) (Rd.own 0 rfl) rfl (by simp at hnl; omega) hk) ?_
    clear hs
    rintro _ w ⟨rfl, hs⟩
    first | refine lw_val rfl (run_assign (v := errV ad _) rfl) ?_ | refine lw_val rfl (run_assign (v := .nilIface) rfl) ?_ | refine lw_val rfl (run_assign (v := eV ad _ _) rfl) ?_ | refine lw_val rfl (run_assign (v := .iface _ (.pointer (some _))) rfl) ?_
    refine lw_nil ?_
    refine cw_ret ?_
    first | refine res1 (v := errV ad _) rfl rfl ?_ | refine res1 (v := .nilIface) rfl rfl ?_ | refine res1 (v := eV ad _ _) rfl rfl ?_ | refine res1 (v := .iface _ (.pointer (some _))) rfl rfl ?_
    exact ⟨_, rfl, rfl, hs.arr [0] 4 (by decide)⟩
def Dk.jremove (d : Dk) : Nat × Dk := if (d.remove nUp).1 = 0 ∨ (d.remove nUp).1 = 107 then (d.remove nUp).2.syncDir else d.remove nUp
theorem Dk.remove_code (n : ByteArray) (d : Dk) : ((d.remove n).1 = 0 ∨ (d.remove n).1 = 107 ∨ (d.remove n).1 = 110) ∧ (d.remove n).2.calls ≤ d.calls + 1 := by
  have hf := d.calls_find n
  unfold Dk.remove
  obtain ⟨c, o, d1, hfd⟩ : ∃ c o d1, d.find n = (c, o, d1) := ⟨_, _, _, rfl⟩
  rw [hfd] at hf ⊢
  simp only at hf
  have hc : c = 0 ∨ c = 107 ∨ c = 110 := by
    unfold Dk.find at hfd
    split at hfd
    · simp only [Prod.mk.injEq] at hfd
      have h1 := hfd.1
      unfold Dk.file at h1
      split at h1
      · exact .inr (.inr h1.symm)
      · split at h1
        · exact .inl h1.symm
        · exact .inr (.inl h1.symm)
    · simp only [Prod.mk.injEq] at hfd; exact .inr (.inr hfd.1.symm)
  cases o with
  | none => exact ⟨hc, by simp only; omega⟩
  | some i => exact ⟨.inl rfl, by simp only [Dk.change]; omega⟩
theorem jremove_sl (hE : ErrK ad g) (hcl : d.calls < 900000) (hs : Mem g w (DiskC p d :: L)) {k : Nat} {d2 : Dk} (hk : d.jremove = (k, d2)) : Calls Tryd.prog 36 #[.pointer (some ⟨p, 0, none⟩)] w (Ret fun v w' => v = errV ad k ∧ Mem g w' (DiskC p d2 :: L)) := by
  obtain ⟨c, d1, hr⟩ : ∃ c d1, d.remove nUp = (c, d1) := ⟨_, _, rfl⟩
  have hrc := d.remove_code nUp
  unfold Dk.jremove at hk
  rw [hr] at hk hrc
  simp only at hk hrc
  refine calls_cw Tryd.func36 rfl rfl ?_
  skip
  refine cw_seq ?_
  refine cw_region ?_
  first | refine lw_val rfl (run_assign (v := errV ad _) rfl) ?_ | refine lw_val rfl (run_assign (v := .nilIface) rfl) ?_ | refine lw_val rfl (run_assign (v := eV ad _ _) rfl) ?_ | refine lw_val rfl (run_assign (v := .iface _ (.pointer (some _))) rfl) ?_
  refine lw_nil ?_
  refine cw_seq ?_
  refine cw_seq ?_
  refine cw_region ?_
  first | refine lw_val rfl (run_move (v := .pointer (some _)) rfl) ?_ | refine lw_val rfl (run_move (v := .pointer none) rfl) ?_
  refine lw_call rfl en49 (remove_sl hE hs (by omega) nUp hr) ?_
  clear hs
  rintro _ w ⟨rfl, hs⟩
  first | refine lw_val rfl (run_assign (v := errV ad _) rfl) ?_ | refine lw_val rfl (run_assign (v := .nilIface) rfl) ?_ | refine lw_val rfl (run_assign (v := eV ad _ _) rfl) ?_ | refine lw_val rfl (run_assign (v := .iface _ (.pointer (some _))) rfl) ?_
  refine lw_nil ?_
  refine cw_seq ?_
  refine cw_region ?_
  first | refine lw_val rfl (run_move (v := errV ad _) rfl) ?_ | refine lw_val rfl (run_move (v := .nilIface) rfl) ?_ | refine lw_val rfl (run_move (v := eV ad _ _) rfl) ?_ | refine lw_val rfl (run_move (v := .iface _ (.pointer (some _))) rfl) ?_
  first | refine lw_val rfl (run_neerrn (ad := ad) rfl) ?_ | refine lw_val rfl (run_nenn rfl) ?_ | refine lw_val rfl (run_neE (ad := ad) rfl) ?_
  first | refine lw_val rfl (run_move (v := .bool _) rfl) ?_
  refine lw_split (t := _) (d := 8) rfl ?_ ?_
  · intro h7
    have g7 := ne_t h7
    refine lw_on rfl rfl h7 ?_
    first | refine lw_val rfl (run_move (v := errV ad _) rfl) ?_ | refine lw_val rfl (run_move (v := .nilIface) rfl) ?_ | refine lw_val rfl (run_move (v := eV ad _ _) rfl) ?_ | refine lw_val rfl (run_move (v := .iface _ (.pointer (some _))) rfl) ?_
    refine lw_on rfl rfl h7 ?_
    refine lw_val rfl (run_load Tryd.underlying30 rfl rfl (hE.cellW hs 107 (by decide) rfl)) ?_
    refine lw_on rfl rfl h7 ?_
    refine lw_val rfl (run_neerr (hE.atW hs) (by rcases hrc.1 with h | h | h <;> (rw [h]; decide)) (by decide) rfl rfl) ?_
    first | refine lw_val rfl (run_pickT (v := .bool _) rfl h7 rfl) ?_
    refine lw_nil ?_
    refine cw_if rfl ?_ ?_
    · intro h11
      have g11 := ne_t h11
      have h0 : c ≠ 0 := by simpa using h7
      have h1 : c ≠ 107 := by simpa using h11
      rw [if_neg (fun h => h.elim h0 h1)] at hk
      cases hk
      refine cw_seq ?_
      refine cw_region ?_
      first | refine lw_val rfl (run_move (v := errV ad _) rfl) ?_ | refine lw_val rfl (run_move (v := .nilIface) rfl) ?_ | refine lw_val rfl (run_move (v := eV ad _ _) rfl) ?_ | refine lw_val rfl (run_move (v := .iface _ (.pointer (some _))) rfl) ?_
      first | refine lw_val rfl (run_assign (v := errV ad _) rfl) ?_ | refine lw_val rfl (run_assign (v := .nilIface) rfl) ?_ | refine lw_val rfl (run_assign (v := eV ad _ _) rfl) ?_ | refine lw_val rfl (run_assign (v := .iface _ (.pointer (some _))) rfl) ?_
      refine lw_nil ?_
      refine cw_ret ?_
      first | refine res1 (v := errV ad _) rfl rfl ?_ | refine res1 (v := .nilIface) rfl rfl ?_ | refine res1 (v := eV ad _ _) rfl rfl ?_ | refine res1 (v := .iface _ (.pointer (some _))) rfl rfl ?_
      exact ⟨_, rfl, rfl, hs⟩
    · intro h11
      have g11 := ne_f h11
      have h1 : c = 107 := by simpa using h11
      rw [if_pos (.inr h1)] at hk
      refine cw_skip ?_
      refine cw_seq ?_
      refine cw_region ?_
      first | refine lw_val rfl (run_move (v := .pointer (some _)) rfl) ?_ | refine lw_val rfl (run_move (v := .pointer none) rfl) ?_
      refine lw_call rfl en52 (syncDir_sl hE hs (by omega) hk) ?_
      clear hs
      rintro _ w ⟨rfl, hs⟩
      first | refine lw_val rfl (run_assign (v := errV ad _) rfl) ?_ | refine lw_val rfl (run_assign (v := .nilIface) rfl) ?_ | refine lw_val rfl (run_assign (v := eV ad _ _) rfl) ?_ | refine lw_val rfl (run_assign (v := .iface _ (.pointer (some _))) rfl) ?_
      refine lw_nil ?_
      refine cw_ret ?_
      first | refine res1 (v := errV ad _) rfl rfl ?_ | refine res1 (v := .nilIface) rfl rfl ?_ | refine res1 (v := eV ad _ _) rfl rfl ?_ | refine res1 (v := .iface _ (.pointer (some _))) rfl rfl ?_
      exact ⟨_, rfl, rfl, hs⟩
  · intro h7
    have g7 := ne_f h7
    have h0 : c = 0 := by simpa using h7
    rw [if_pos (.inl h0)] at hk
    refine lw_off rfl rfl rfl h7 ?_
    refine lw_off rfl rfl rfl h7 ?_
    refine lw_off rfl rfl rfl h7 ?_
    first | refine lw_val rfl (run_pickF (v := .bool _) rfl h7 rfl) ?_
    refine lw_nil ?_
    refine cw_iff rfl rfl ?_
    refine cw_skip ?_
    refine cw_seq ?_
    refine cw_region ?_
    first | refine lw_val rfl (run_move (v := .pointer (some _)) rfl) ?_ | refine lw_val rfl (run_move (v := .pointer none) rfl) ?_
    refine lw_call rfl en52 (syncDir_sl hE hs (by omega) hk) ?_
    clear hs
    rintro _ w ⟨rfl, hs⟩
    first | refine lw_val rfl (run_assign (v := errV ad _) rfl) ?_ | refine lw_val rfl (run_assign (v := .nilIface) rfl) ?_ | refine lw_val rfl (run_assign (v := eV ad _ _) rfl) ?_ | refine lw_val rfl (run_assign (v := .iface _ (.pointer (some _))) rfl) ?_
    refine lw_nil ?_
    refine cw_ret ?_
    first | refine res1 (v := errV ad _) rfl rfl ?_ | refine res1 (v := .nilIface) rfl rfl ?_ | refine res1 (v := eV ad _ _) rfl rfl ?_ | refine res1 (v := .iface _ (.pointer (some _))) rfl rfl ?_
    exact ⟨_, rfl, rfl, hs⟩
end Go.Proofs.YtmnfehbnjgmgjaaDoor
