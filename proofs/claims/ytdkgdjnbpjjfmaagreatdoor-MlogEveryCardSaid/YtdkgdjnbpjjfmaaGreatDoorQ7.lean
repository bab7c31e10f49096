/- The remote log: Open, Snap, Append; whatever the power does. The remote log: Append. The document's Make; the manifests of the statements. The statements' entries. The remote log as the statements see it. What an error is as plain data: with a place, too. Errors as the statements see them, bare or with a place. What a row's condition on the sentinels gives a walk: 'Errs'; what its condition on a slice gives: 'seqV'. Closed facts on the program's head, that each row of this seat asks for. -/
import Derived.Test.YtdkgdjnbpjjfmaaGreatDoorQ6
import Derived.Test.YtdkgdjnbpjjfmaaGreatDoorQ4
import Derived.Test.YtdkgdjnbpjjfmaaGreatDoorQ5
import Derived.Test.YtdkgdjnbpjjfmaaGreatDoorQ3
import Derived.Test.YtdkgdjnbpjjfmaaGreatDoorQ1
import Derived.Test.YtdkgdjnbpjjfmaaGreatDoorRows
import Derived.LaidMore
import Derived.LaidHandle
import Derived.LaidLaws
import Derived.MakeChecks
import Derived.OpenShut
import Derived.Carry
import Derived.JoinedOf
import Derived.ProofKit
namespace Go.Proofs.YtdkgdjnbpjjfmaaGreatDoor
set_option linter.all false
open Go.RowKit
attribute [local irreducible] errV eV
variable {g w : World} {L M : List HP} {ad : Nat → Addr} {p d pv ev : Nat} {dk : Dk} {f : ByteArray → Option (List UInt8)} {V U : Vw} {q r c n : Nat} {b mb : List UInt8}

set_option maxHeartbeats 1000000 in
theorem openM_sl (hM : ErrM ad g) (hs : Mem g w (DiskC d dk :: L)) (hI : LgI f dk) (ha : dk.armed = 0) (hcl : dk.calls < 800000) (hev : 1 ≤ ev ∧ ev ≤ 4096) {V0 : Vw} {q0 : Nat} (hSn : Snp f V0 q0) (ho : V0.ok) (hu : V0.sums) (hl : V0.length ≤ 100) (hf : f mtN = some mb ∨ f mtN = none ∧ mb = []) (hml : mb.length ≤ 1000000) (hent : Ent V0 q0 mb V q c n) (hq : q < 4611686018427387904) :
    Calls Tryz.prog 10 #[.pointer (some ⟨d, 0, none⟩), .int .i64 (ev : Nat)] w (Ret fun v w' => ∃ p dk2, v = .tuple #[.pointer (some ⟨p, 0, none⟩), .nilIface] ∧ dk2.armed = 0 ∧ dk2.room = dk.room ∧ dk2.calls ≤ dk.calls + 4 ∧ LgI (updF f mtN (mb.take n)) dk2 ∧ Mem g w' (LogC p d ev V q c n :: DiskC d dk2 :: L)) := by
  have hK := hM.toK
  have hle := hent.le
  have hll := hI.lenR mem_mt
  refine calls_cw Tryz.func10 rfl rfl ?_
  skip
  refine cw_seq (cw_region ?_)
  refine lw_val rfl (run_assign (v := .pointer none) rfl) ?_
  refine lw_val rfl (run_assign (v := .nilIface) rfl) ?_
  refine lw_nil ?_
  refine cw_seq ?_
  refine cw_seq (cw_region ?_)
  refine lw_val rfl (run_move (v := .int .i64 _) rfl) ?_
  refine lw_val rfl (run_lss rfl rfl) ?_
  refine lw_val rfl (run_move (v := .bool _) rfl) ?_
  refine lw_on rfl rfl (decide_eq_false (by omega)) ?_
  refine lw_val rfl (run_move (v := .int .i64 _) rfl) ?_
  refine lw_on rfl rfl (decide_eq_false (by omega)) ?_
  refine lw_val rfl (run_gtr rfl rfl) ?_
  refine lw_val rfl (run_pickF (v := .bool _) rfl (decide_eq_false (by omega)) rfl) ?_
  refine lw_nil ?_
  refine cw_iff rfl (decide_eq_false (by omega)) ?_
  refine cw_skip ?_
  refine cw_seq (cw_region ?_)
  refine lw_val rfl (run_move (v := .pointer (some _)) rfl) ?_
  refine lw_val rfl (run_move (v := .int .i64 _) rfl) ?_
  refine lw_call rfl en11 (newq_sl hs) ?_
  clear hs
  rintro _ w ⟨pv, rfl, hs⟩
  refine lw_val rfl (run_build (cs := [.pointer (some ⟨d, 0, none⟩), .int .i64 (ev : Nat), .pointer (some ⟨pv, 0, none⟩), .int .i64 ((0 : Nat) : Int), .int .i64 ((0 : Nat) : Int), .int .i64 ((0 : Nat) : Int)]) Tryz.underlying74 ze74 pl74 rfl) ?_
  refine lw_box (v := .agg _) hs rfl rfl ?_
  clear hs
  intro b21 w hs
  try simp only [List.set_cons_succ, List.set_cons_zero] at hs
  refine lw_val rfl (run_assign (v := .pointer (some _)) rfl) ?_
  refine lw_nil ?_
  replace hs : Mem g w (lgP b21 d ev pv 0 0 0 :: ViewQ pv [] :: DiskC d dk :: L) := hs
  refine cw_seq ?_
  refine cw_seq ?_
  obtain ⟨hfn, rfl, rfl⟩ | hfn := hSn
  ·
   refine cw_region ?_
   refine lw_val rfl (run_move (v := .pointer (some _)) rfl) ?_
   refine lw_call rfl en33 (snapNo_sl hM hs (hI.pread_none mem_sn hfn)) ?_
   clear hs
   rintro _ w ⟨rfl, hs⟩
   refine lw_val rfl (run_assign (v := .nilIface) rfl) ?_
   refine lw_nil (cw_seq (cw_region ?_))
   refine lw_val rfl (run_move (v := .nilIface) rfl) ?_
   refine lw_val rfl (run_nenn rfl) ?_
   refine lw_nil ?_
   refine cw_iff rfl (rfl) ?_
   refine cw_skip ?_
   refine cw_seq ?_
   obtain hfm | ⟨hfm, rfl⟩ := hf
   ·
    replace hll : dk.lenR mtN = (0, mb.length) := by rw [hll, hfm]; rfl
    refine cw_region ?_
    refine lw_val rfl (run_move (v := .pointer (some _)) rfl) ?_
    refine lw_call rfl en15 (len_sl hM.toK (hs.arr [2, 0, 1] 3 (by decide)) mtN hll) ?_
    clear hs
    rintro _ w ⟨rfl, hs⟩
    refine lw_val rfl (run_move (v := .tuple _) rfl) ?_
    refine lw_val rfl (run_extract (v := .int .i64 _) rfl rfl) ?_
    refine lw_val rfl (run_extract (v := errV ad _) rfl rfl) ?_
    refine lw_val rfl (run_assign (v := .int .i64 _) rfl) ?_
    refine lw_val rfl (run_assign (v := errV ad _) rfl) ?_
    refine lw_nil ?_
    refine cw_seq ?_
    refine cw_seq (cw_region ?_)
    refine lw_val rfl (run_move (v := errV ad _) rfl) ?_
    refine lw_val rfl (run_load Tryz.underlying27 rfl rfl (hK.cellW hs 107 (by decide) rfl)) ?_
    refine lw_val rfl (run_eqerr (hK.atW hs) (by decide) (by decide) rfl rfl) ?_
    refine lw_nil ?_
    refine cw_iff rfl (rfl) ?_
    refine cw_skip ?_
    refine cw_seq ?_
    refine cw_seq (cw_region ?_)
    refine lw_val rfl (run_move (v := errV ad _) rfl) ?_
    refine lw_val rfl (run_neerrn (ad := ad) rfl) ?_
    refine lw_nil ?_
    refine cw_iff rfl (rfl) ?_
    refine cw_skip ?_
    refine cw_seq ?_
    refine cw_seq (cw_region ?_)
    refine lw_val rfl (run_move (v := .pointer (some _)) rfl) ?_
    refine lw_val rfl (run_move (v := .int .i64 _) rfl) ?_
    refine lw_call rfl en36 (entries_sl hM hI ha (by omega) hfm hml hent hq (hs.arr [1, 2, 0] 3 (by decide))) ?_
    clear hs
    rintro _ w ⟨rfl, d2, h1, h2, h3, h4, hs⟩
    refine lw_val rfl (run_assign (v := .nilIface) rfl) ?_
    refine lw_nil (cw_seq (cw_region ?_))
    refine lw_val rfl (run_move (v := .nilIface) rfl) ?_
    refine lw_val rfl (run_nenn rfl) ?_
    refine lw_nil ?_
    refine cw_iff rfl (rfl) ?_
    refine cw_skip ?_
    refine cw_seq (cw_region ?_)
    refine lw_val rfl (run_move (v := .pointer (some _)) rfl) ?_
    refine lw_val rfl (run_assign (v := .pointer (some _)) rfl) ?_
    refine lw_val rfl (run_assign (v := .nilIface) rfl) ?_
    refine lw_nil ?_
    refine cw_ret ?_
    refine res2 (v := .pointer (some _)) (v2 := .nilIface) rfl rfl rfl ?_
    exact ⟨_, rfl, _, d2, rfl, h1, h2, by omega, h4, hs.closeL⟩
   ·
    replace hll : dk.lenR mtN = (107, 0) := by rw [hll, hfm]; rfl
    obtain ⟨e1, e2, hcr, hsd, hroom, harm, hc1, hc2, hI2⟩ := hI.make ha mem_mt hfm mtN_valid
    refine cw_region ?_
    refine lw_val rfl (run_move (v := .pointer (some _)) rfl) ?_
    refine lw_call rfl en15 (len_sl hM.toK (hs.arr [2, 0, 1] 3 (by decide)) mtN hll) ?_
    clear hs
    rintro _ w ⟨rfl, hs⟩
    refine lw_val rfl (run_move (v := .tuple _) rfl) ?_
    refine lw_val rfl (run_extract (v := .int .i64 _) rfl rfl) ?_
    refine lw_val rfl (run_extract (v := errV ad _) rfl rfl) ?_
    refine lw_val rfl (run_assign (v := .int .i64 _) rfl) ?_
    refine lw_val rfl (run_assign (v := errV ad _) rfl) ?_
    refine lw_nil ?_
    refine cw_seq ?_
    refine cw_seq (cw_region ?_)
    refine lw_val rfl (run_move (v := errV ad _) rfl) ?_
    refine lw_val rfl (run_load Tryz.underlying27 rfl rfl (hK.cellW hs 107 (by decide) rfl)) ?_
    refine lw_val rfl (run_eqerr (hK.atW hs) (by decide) (by decide) rfl rfl) ?_
    refine lw_nil ?_
    refine cw_ift rfl (rfl) ?_
    refine cw_seq (cw_region ?_)
    refine lw_val rfl (run_move (v := .pointer (some _)) rfl) ?_
    refine lw_call rfl en34 (create_sl hM.toK hs (by omega) mtN hcr) ?_
    clear hs
    rintro _ w ⟨rfl, hs⟩
    refine lw_val rfl (run_assign (v := errV ad _) rfl) ?_
    refine lw_nil (cw_seq (cw_region ?_))
    refine lw_val rfl (run_move (v := errV ad _) rfl) ?_
    refine lw_val rfl (run_eqerrn (ad := ad) rfl) ?_
    refine lw_nil ?_
    refine cw_ift rfl (rfl) ?_
    refine cw_region ?_
    refine lw_val rfl (run_move (v := .pointer (some _)) rfl) ?_
    refine lw_call rfl en35 (syncDir_sl hM.toK hs (by omega) hsd) ?_
    clear hs
    rintro _ w ⟨rfl, hs⟩
    have hI3 := hI2 (hs.openD).1
    obtain ⟨e3, e4, e5, e6⟩ := hent.of_nil
    subst e3
    subst e4
    subst e5
    subst e6
    refine lw_val rfl (run_assign (v := errV ad _) rfl) ?_
    refine lw_nil ?_
    refine cw_seq ?_
    refine cw_seq (cw_region ?_)
    refine lw_val rfl (run_move (v := errV ad _) rfl) ?_
    refine lw_val rfl (run_neerrn (ad := ad) rfl) ?_
    refine lw_nil ?_
    refine cw_iff rfl (rfl) ?_
    refine cw_skip ?_
    refine cw_seq ?_
    refine cw_seq (cw_region ?_)
    refine lw_val rfl (run_move (v := .pointer (some _)) rfl) ?_
    refine lw_val rfl (run_move (v := .int .i64 _) rfl) ?_
    refine lw_call rfl en36 (entries_sl (mb := []) hM hI3 harm (by omega) (updF_same _ _ _) hml hent hq (hs.arr [1, 2, 0] 3 (by decide))) ?_
    clear hs
    rintro _ w ⟨rfl, d2, h1, h2, h3, h4, hs⟩
    refine lw_val rfl (run_assign (v := .nilIface) rfl) ?_
    refine lw_nil (cw_seq (cw_region ?_))
    refine lw_val rfl (run_move (v := .nilIface) rfl) ?_
    refine lw_val rfl (run_nenn rfl) ?_
    refine lw_nil ?_
    refine cw_iff rfl (rfl) ?_
    refine cw_skip ?_
    refine cw_seq (cw_region ?_)
    refine lw_val rfl (run_move (v := .pointer (some _)) rfl) ?_
    refine lw_val rfl (run_assign (v := .pointer (some _)) rfl) ?_
    refine lw_val rfl (run_assign (v := .nilIface) rfl) ?_
    refine lw_nil ?_
    refine cw_ret ?_
    refine res2 (v := .pointer (some _)) (v2 := .nilIface) rfl rfl rfl ?_
    exact ⟨_, rfl, _, d2, rfl, h1, h2.trans hroom, by omega, by rw [updF_twice] at h4; exact h4, hs.closeL⟩
  ·
   refine cw_region ?_
   refine lw_val rfl (run_move (v := .pointer (some _)) rfl) ?_
   refine lw_call rfl en33 (snap_sl hM hs (hI.pread_some mem_sn hfn) ho hu hl (by omega)) ?_
   clear hs
   rintro _ w ⟨rfl, pw, hs⟩
   refine lw_val rfl (run_assign (v := .nilIface) rfl) ?_
   refine lw_nil (cw_seq (cw_region ?_))
   refine lw_val rfl (run_move (v := .nilIface) rfl) ?_
   refine lw_val rfl (run_nenn rfl) ?_
   refine lw_nil ?_
   refine cw_iff rfl (rfl) ?_
   refine cw_skip ?_
   refine cw_seq ?_
   obtain hfm | ⟨hfm, rfl⟩ := hf
   ·
    replace hll : dk.lenR mtN = (0, mb.length) := by rw [hll, hfm]; rfl
    refine cw_region ?_
    refine lw_val rfl (run_move (v := .pointer (some _)) rfl) ?_
    refine lw_call rfl en15 (len_sl hM.toK (hs.arr [2, 0, 1] 3 (by decide)) mtN hll) ?_
    clear hs
    rintro _ w ⟨rfl, hs⟩
    refine lw_val rfl (run_move (v := .tuple _) rfl) ?_
    refine lw_val rfl (run_extract (v := .int .i64 _) rfl rfl) ?_
    refine lw_val rfl (run_extract (v := errV ad _) rfl rfl) ?_
    refine lw_val rfl (run_assign (v := .int .i64 _) rfl) ?_
    refine lw_val rfl (run_assign (v := errV ad _) rfl) ?_
    refine lw_nil ?_
    refine cw_seq ?_
    refine cw_seq (cw_region ?_)
    refine lw_val rfl (run_move (v := errV ad _) rfl) ?_
    refine lw_val rfl (run_load Tryz.underlying27 rfl rfl (hK.cellW hs 107 (by decide) rfl)) ?_
    refine lw_val rfl (run_eqerr (hK.atW hs) (by decide) (by decide) rfl rfl) ?_
    refine lw_nil ?_
    refine cw_iff rfl (rfl) ?_
    refine cw_skip ?_
    refine cw_seq ?_
    refine cw_seq (cw_region ?_)
    refine lw_val rfl (run_move (v := errV ad _) rfl) ?_
    refine lw_val rfl (run_neerrn (ad := ad) rfl) ?_
    refine lw_nil ?_
    refine cw_iff rfl (rfl) ?_
    refine cw_skip ?_
    refine cw_seq ?_
    refine cw_seq (cw_region ?_)
    refine lw_val rfl (run_move (v := .pointer (some _)) rfl) ?_
    refine lw_val rfl (run_move (v := .int .i64 _) rfl) ?_
    refine lw_call rfl en36 (entries_sl hM hI ha (by omega) hfm hml hent hq (hs.arr [1, 2, 0] 3 (by decide))) ?_
    clear hs
    rintro _ w ⟨rfl, d2, h1, h2, h3, h4, hs⟩
    refine lw_val rfl (run_assign (v := .nilIface) rfl) ?_
    refine lw_nil (cw_seq (cw_region ?_))
    refine lw_val rfl (run_move (v := .nilIface) rfl) ?_
    refine lw_val rfl (run_nenn rfl) ?_
    refine lw_nil ?_
    refine cw_iff rfl (rfl) ?_
    refine cw_skip ?_
    refine cw_seq (cw_region ?_)
    refine lw_val rfl (run_move (v := .pointer (some _)) rfl) ?_
    refine lw_val rfl (run_assign (v := .pointer (some _)) rfl) ?_
    refine lw_val rfl (run_assign (v := .nilIface) rfl) ?_
    refine lw_nil ?_
    refine cw_ret ?_
    refine res2 (v := .pointer (some _)) (v2 := .nilIface) rfl rfl rfl ?_
    exact ⟨_, rfl, _, d2, rfl, h1, h2, by omega, h4, hs.closeL⟩
   ·
    replace hll : dk.lenR mtN = (107, 0) := by rw [hll, hfm]; rfl
    obtain ⟨e1, e2, hcr, hsd, hroom, harm, hc1, hc2, hI2⟩ := hI.make ha mem_mt hfm mtN_valid
    refine cw_region ?_
    refine lw_val rfl (run_move (v := .pointer (some _)) rfl) ?_
    refine lw_call rfl en15 (len_sl hM.toK (hs.arr [2, 0, 1] 3 (by decide)) mtN hll) ?_
    clear hs
    rintro _ w ⟨rfl, hs⟩
    refine lw_val rfl (run_move (v := .tuple _) rfl) ?_
    refine lw_val rfl (run_extract (v := .int .i64 _) rfl rfl) ?_
    refine lw_val rfl (run_extract (v := errV ad _) rfl rfl) ?_
    refine lw_val rfl (run_assign (v := .int .i64 _) rfl) ?_
    refine lw_val rfl (run_assign (v := errV ad _) rfl) ?_
    refine lw_nil ?_
    refine cw_seq ?_
    refine cw_seq (cw_region ?_)
    refine lw_val rfl (run_move (v := errV ad _) rfl) ?_
    refine lw_val rfl (run_load Tryz.underlying27 rfl rfl (hK.cellW hs 107 (by decide) rfl)) ?_
    refine lw_val rfl (run_eqerr (hK.atW hs) (by decide) (by decide) rfl rfl) ?_
    refine lw_nil ?_
    refine cw_ift rfl (rfl) ?_
    refine cw_seq (cw_region ?_)
    refine lw_val rfl (run_move (v := .pointer (some _)) rfl) ?_
    refine lw_call rfl en34 (create_sl hM.toK hs (by omega) mtN hcr) ?_
    clear hs
    rintro _ w ⟨rfl, hs⟩
    refine lw_val rfl (run_assign (v := errV ad _) rfl) ?_
    refine lw_nil (cw_seq (cw_region ?_))
    refine lw_val rfl (run_move (v := errV ad _) rfl) ?_
    refine lw_val rfl (run_eqerrn (ad := ad) rfl) ?_
    refine lw_nil ?_
    refine cw_ift rfl (rfl) ?_
    refine cw_region ?_
    refine lw_val rfl (run_move (v := .pointer (some _)) rfl) ?_
    refine lw_call rfl en35 (syncDir_sl hM.toK hs (by omega) hsd) ?_
    clear hs
    rintro _ w ⟨rfl, hs⟩
    have hI3 := hI2 (hs.openD).1
    obtain ⟨e3, e4, e5, e6⟩ := hent.of_nil
    subst e3
    subst e4
    subst e5
    subst e6
    refine lw_val rfl (run_assign (v := errV ad _) rfl) ?_
    refine lw_nil ?_
    refine cw_seq ?_
    refine cw_seq (cw_region ?_)
    refine lw_val rfl (run_move (v := errV ad _) rfl) ?_
    refine lw_val rfl (run_neerrn (ad := ad) rfl) ?_
    refine lw_nil ?_
    refine cw_iff rfl (rfl) ?_
    refine cw_skip ?_
    refine cw_seq ?_
    refine cw_seq (cw_region ?_)
    refine lw_val rfl (run_move (v := .pointer (some _)) rfl) ?_
    refine lw_val rfl (run_move (v := .int .i64 _) rfl) ?_
    refine lw_call rfl en36 (entries_sl (mb := []) hM hI3 harm (by omega) (updF_same _ _ _) hml hent hq (hs.arr [1, 2, 0] 3 (by decide))) ?_
    clear hs
    rintro _ w ⟨rfl, d2, h1, h2, h3, h4, hs⟩
    refine lw_val rfl (run_assign (v := .nilIface) rfl) ?_
    refine lw_nil (cw_seq (cw_region ?_))
    refine lw_val rfl (run_move (v := .nilIface) rfl) ?_
    refine lw_val rfl (run_nenn rfl) ?_
    refine lw_nil ?_
    refine cw_iff rfl (rfl) ?_
    refine cw_skip ?_
    refine cw_seq (cw_region ?_)
    refine lw_val rfl (run_move (v := .pointer (some _)) rfl) ?_
    refine lw_val rfl (run_assign (v := .pointer (some _)) rfl) ?_
    refine lw_val rfl (run_assign (v := .nilIface) rfl) ?_
    refine lw_nil ?_
    refine cw_ret ?_
    refine res2 (v := .pointer (some _)) (v2 := .nilIface) rfl rfl rfl ?_
    exact ⟨_, rfl, _, d2, rfl, h1, h2.trans hroom, by omega, by rw [updF_twice] at h4; exact h4, hs.closeL⟩
/-! ### a snapshot -/
def SnapOut (f : ByteArray → Option (List UInt8)) (dk : Dk) (q : Nat) (V : Vw) (k : Nat) (dk2 : Dk) : Prop :=
  dk2.room = dk.room ∧ dk2.calls ≤ dk.calls + 7 ∧ (k = 0 ∧ dk2.down = false ∧ (dk.armed = 0 → dk2.armed = 0) ∧ LgI (updF (updF f snN (sealL (snapB q V))) mtN []) dk2 ∨
    k = 110 ∧ dk2.down = true ∧ dk.armed ≠ 0 ∧ ∀ picks, LgI f (dk2.crash picks) ∨ LgI (updF f snN (sealL (snapB q V))) (dk2.crash picks))
theorem vw_len (ho : V.ok) (h : V.length ≤ 32) : (vwB V).length ≤ 192494 := by
  have h1 := items_len ho (sortI (keysOf V))
  have h2 := vputL_len V.length
  have h3 : (vwB V).length = (vwBody V).length + 4 := sealL_len _
  rw [sortI_len, keysOf, List.length_map] at h1
  rw [h3]
  simp only [vwBody, List.length_append, keysOf] at h1 ⊢; omega
set_option maxHeartbeats 1000000 in
theorem snapM_sl (hM : ErrM ad g) (hs : Mem g w (LogC p d ev V q c n :: DiskC d dk :: L)) (hI : LgI f dk) (hf : f mtN = some mb) (hcl : dk.calls < 800000) (hr : 1000000 ≤ dk.room) (hu : V.sums) (hl : V.length ≤ 32) (hq : q < 4611686018427387904) :
    Calls Tryz.prog 23 #[.pointer (some ⟨p, 0, none⟩)] w (Ret fun v w' => ∃ k dk2, v = errV ad k ∧ SnapOut f dk q V k dk2 ∧ Mem g w' (LogC p d ev V q (if k = 0 then 0 else c) (if k = 0 then 0 else n) :: DiskC d dk2 :: L)) := by
  have hK := hM.toK
  obtain ⟨pv, hs⟩ := hs.openL
  have ho : V.ok := ((hs.arr [1, 0, 2] 3 (by decide)).openQ).1
  have hvb := vw_len ho hl
  have hql := vputL_len q
  have hsl : (snapB q V).length = (vputL q).length + (vwB V).length := List.length_append
  obtain ⟨kw, dw, hw, hwr, hwc, hwcase⟩ := hI.write (b := snapB q V) mem_sn lgN_new snN_valid snN_valid2 (by omega) (by show 2 * 2 * 200000 + 200000 ≤ dk.room; omega)
  refine calls_cw Tryz.func23 rfl rfl ?_
  skip
  refine cw_seq (cw_region ?_)
  refine lw_val rfl (run_assign (v := .nilIface) rfl) ?_
  refine lw_nil ?_
  refine cw_seq ?_
  refine cw_seq ?_
  refine cw_drawS mixes (hs.drop 2) ?_
  intro w tr hK
  replace hs := tr _ hs
  clear tr
  refine aw_take 0 rfl (by kernel_rfl) (by kernel_rfl) (by kernel_rfl) rfl (fun w hs => run_move (v := .pointer (some _)) rfl) hK ?_
  refine aw_take 1 rfl (by kernel_rfl) (by kernel_rfl) (by kernel_rfl) rfl (fun w hs => run_nilCheckP rfl) hK ?_
  refine aw_take 2 rfl (by kernel_rfl) (by kernel_rfl) (by kernel_rfl) rfl (fun w hs => run_fieldAddr (o' := 0) Tryz.underlying74 rfl sz25 rfl rfl rfl) hK ?_
  refine aw_take 3 rfl (by kernel_rfl) (by kernel_rfl) (by kernel_rfl) rfl (fun w hs => run_load Tryz.underlying25 rfl rfl (hs.cellAt 0 rfl rfl)) hK ?_
  refine aw_take 4 rfl (by kernel_rfl) (by kernel_rfl) (by kernel_rfl) rfl (fun w hs => run_move (v := .pointer (some _)) rfl) hK ?_
  refine aw_take 5 rfl (by kernel_rfl) (by kernel_rfl) (by kernel_rfl) rfl (fun w hs => run_nilCheckP rfl) hK ?_
  refine aw_take 6 rfl (by kernel_rfl) (by kernel_rfl) (by kernel_rfl) rfl (fun w hs => run_fieldAddr (o' := 3) Tryz.underlying74 rfl sz2 rfl rfl rfl) hK ?_
  refine aw_take 7 rfl (by kernel_rfl) (by kernel_rfl) (by kernel_rfl) rfl (fun w hs => run_load Tryz.underlying2 rfl rfl (hs.cellAt 0 rfl rfl)) hK ?_
  refine aw_take 8 rfl (by kernel_rfl) (by kernel_rfl) (by kernel_rfl) rfl (fun w hs => run_convIn Tryz.underlying2 Tryz.underlying100 rfl (c := ((q : Nat) : Int)) (by rw [wrap_u64]; omega)) hK ?_
  refine aw_take 10 rfl (by kernel_rfl) (by kernel_rfl) (by kernel_rfl) rfl (fun w hs => run_move (v := .pointer (some _)) rfl) hK ?_
  refine aw_take 11 rfl (by kernel_rfl) (by kernel_rfl) (by kernel_rfl) rfl (fun w hs => run_nilCheckP rfl) hK ?_
  refine aw_take 12 rfl (by kernel_rfl) (by kernel_rfl) (by kernel_rfl) rfl (fun w hs => run_fieldAddr (o' := 2) Tryz.underlying74 rfl sz33 rfl rfl rfl) hK ?_
  refine aw_take 13 rfl (by kernel_rfl) (by kernel_rfl) (by kernel_rfl) rfl (fun w hs => run_load Tryz.underlying33 rfl rfl (hs.cellAt 0 rfl rfl)) hK ?_
  refine aw_ready [9] (by kernel_rfl) (by simp) ?_
  refine ⟨⟨_, rfl, ?_⟩, trivial⟩
  refine lw_call rfl en52 (vput_sl hs (lb := []) (n := q) Rd.nil rfl (by decide) (by omega)) ?_
  clear hs
  rintro _ w ⟨a14, c14, rfl, hs⟩
  rw [List.nil_append] at hs ⊢
  clear hK
  have hK := hs.tail.drop 2
  refine lw_nil ⟨hK, ?_⟩
  refine aw_ready [14] (by kernel_rfl) (by simp) ?_
  refine ⟨⟨_, rfl, ?_⟩, trivial⟩
  refine lw_call rfl en53 (bytesq_sl hM.toV (hs.arr [2, 0, 1, 3] 4 (by decide)) (by omega) hu) ?_
  clear hs
  rintro _ w ⟨a19, c19, rfl, hs⟩
  clear hK
  have hK := hs.arr [3, 1] 5 (by decide)
  refine lw_nil ⟨hK, ?_⟩
  refine aw_ready [15] (by kernel_rfl) (by simp) ?_
  refine ⟨⟨_, rfl, ?_⟩, trivial⟩
  refine lw_append hs rfl 2 rfl Tryz.underlying23 in5 rfl rfl rfl (src_of_seq (P := Tryz.prog) Tryz.underlying23 ((Rd.own (l := bytesL (vwB V)) 0 rfl).seq hs) (bytesL_one _)) (by simp only [bytesL_len]; omega) (by simp only [bytesL_len]; omega) ?_
  clear hs
  intro a20 c20 w hs
  simp only [List.set_cons_succ, List.set_cons_zero] at hs
  have e1 : bytesL (vputL q) ++ bytesL (vwB V) = bytesL (snapB q V) := (bytesL_app _ _).symm
  have e2 : (bytesL (vputL q)).length + (bytesL (vwB V)).length = (snapB q V).length := by simp only [bytesL_len, hsl]
  rw [e2] at hs ⊢
  rw [e1] at hs
  clear hK
  have hK := hs.arr [3, 1] 5 (by decide)
  refine lw_nil ⟨hK, ?_⟩
  refine aw_ready [16] (by kernel_rfl) (by simp) ?_
  refine ⟨⟨_, rfl, ?_⟩, trivial⟩
  refine lw_call rfl en51 (write_sl hM.toK (by omega) (hs.arr [4, 0, 1, 2, 3] 5 (by decide)) snN (by decide) (Rd.own (l := bytesL (snapB q V)) 2 rfl) rfl (by omega) hw) ?_
  clear hs
  rintro _ w ⟨rfl, hs⟩
  clear hK
  have hK := hs.arr [4, 2] 5 (by decide)
  refine lw_nil ⟨hK, ?_⟩
  refine aw_take 17 rfl (by kernel_rfl) (by kernel_rfl) (by kernel_rfl) rfl (fun w hs => run_assign (v := errV ad _) rfl) hK ?_
  refine aw_done (by kernel_rfl) ?_
  clear hK
  refine cw_seq ?_
  obtain ⟨rfl, hup, har, hI2⟩ | ⟨rfl, hdn, har, hI2⟩ := hwcase
  ·
   refine cw_region ?_
   refine lw_val rfl (run_move (v := errV ad _) rfl) ?_
   refine lw_val rfl (run_neerrn (ad := ad) rfl) ?_
   refine lw_nil ?_
   refine cw_iff rfl (rfl) ?_
   refine cw_skip ?_
   refine cw_seq ?_
   refine cw_seq ?_
   have hI3 := hI2 (hs.openD).1
   obtain ⟨kc, dc, hcut, hcr, hcc, hccase⟩ := hI3.cut mem_mt (v := mb) (by rw [updF_other _ _ mt_sn]; exact hf) (m := 0) (Nat.zero_le _)
   refine cw_region ?_
   refine lw_val rfl (run_move (v := .pointer (some _)) rfl) ?_
   refine lw_val rfl (run_nilCheckP rfl) ?_
   refine lw_val rfl (run_fieldAddr (o' := 0) Tryz.underlying74 rfl sz25 rfl rfl rfl) ?_
   refine lw_val rfl (run_load Tryz.underlying25 rfl rfl (hs.cellAt 4 rfl rfl)) ?_
   refine lw_call rfl en18 (cut_sl hM.toK hs (by omega) mtN (m := 0) (inI (by decide) (by decide)) hcut) ?_
   clear hs
   rintro _ w ⟨rfl, hs⟩
   refine lw_val rfl (run_assign (v := errV ad _) rfl) ?_
   refine lw_nil ?_
   refine cw_seq ?_
   obtain ⟨rfl, hup2, har2, hI4⟩ | ⟨rfl, hdn2, har2, hI4⟩ := hccase
   ·
    refine cw_region ?_
    refine lw_val rfl (run_move (v := errV ad _) rfl) ?_
    refine lw_val rfl (run_neerrn (ad := ad) rfl) ?_
    refine lw_nil ?_
    refine cw_iff rfl (rfl) ?_
    refine cw_skip ?_
    refine cw_seq (cw_region ?_)
    refine lw_val rfl (run_move (v := .pointer (some _)) rfl) ?_
    refine lw_val rfl (run_move (v := .pointer (some _)) rfl) ?_
    refine lw_val rfl (run_nilCheckP rfl) ?_
    refine lw_val rfl (run_fieldAddr (o' := 4) Tryz.underlying74 rfl sz3 rfl rfl rfl) ?_
    refine lw_store (v := .int .i64 _) hs 4 rfl sz3 rfl rfl rfl rfl ?_
    clear hs
    intro w hs
    try simp only [List.set_cons_succ, List.set_cons_zero] at hs
    refine lw_val rfl (run_nilCheckP rfl) ?_
    refine lw_val rfl (run_fieldAddr (o' := 5) Tryz.underlying74 rfl sz3 rfl rfl rfl) ?_
    refine lw_store (v := .int .i64 _) hs 4 rfl sz3 rfl rfl rfl rfl ?_
    clear hs
    intro w hs
    try simp only [List.set_cons_succ, List.set_cons_zero] at hs
    refine lw_nil (cw_seq (cw_region ?_))
    refine lw_val rfl (run_assign (v := .nilIface) rfl) ?_
    refine lw_nil ?_
    refine cw_ret ?_
    refine res1 (v := .nilIface) rfl rfl ?_
    exact ⟨_, rfl, 0, dc, (errV_zero ad).symm, ⟨hcr.trans hwr, by omega, .inl ⟨rfl, hup2, fun e => har2 (har e), hI4 (hs.openD).1⟩⟩, Mem.closeL (hs.arr [4, 2, 0] 5 (by decide))⟩
   ·
    refine cw_region ?_
    refine lw_val rfl (run_move (v := errV ad _) rfl) ?_
    refine lw_val rfl (run_neerrn (ad := ad) rfl) ?_
    refine lw_nil ?_
    refine cw_ift rfl (rfl) ?_
    refine cw_seq (cw_region ?_)
    refine lw_val rfl (run_move (v := errV ad _) rfl) ?_
    refine lw_val rfl (run_assign (v := errV ad _) rfl) ?_
    refine lw_nil ?_
    refine cw_ret ?_
    refine res1 (v := errV ad _) rfl rfl ?_
    exact ⟨_, rfl, 110, dc, rfl, ⟨hcr.trans hwr, by omega, .inr ⟨rfl, hdn2, fun e => har2 (har e), fun picks => .inr (hI4 (hs.openD).1 picks)⟩⟩, Mem.closeL (hs.arr [4, 2, 0] 5 (by decide))⟩
  ·
   refine cw_region ?_
   refine lw_val rfl (run_move (v := errV ad _) rfl) ?_
   refine lw_val rfl (run_neerrn (ad := ad) rfl) ?_
   refine lw_nil ?_
   refine cw_ift rfl (rfl) ?_
   refine cw_seq (cw_region ?_)
   refine lw_val rfl (run_move (v := errV ad _) rfl) ?_
   refine lw_val rfl (run_assign (v := errV ad _) rfl) ?_
   refine lw_nil ?_
   refine cw_ret ?_
   refine res1 (v := errV ad _) rfl rfl ?_
   exact ⟨_, rfl, 110, dw, rfl, ⟨hwr, by omega, .inr ⟨rfl, hdn, har, hI2 (hs.openD).1⟩⟩, Mem.closeL (hs.arr [4, 2, 0] 5 (by decide))⟩
end Go.Proofs.YtdkgdjnbpjjfmaaGreatDoor
namespace Go.Proofs.YtdkgdjnbpjjfmaaGreatDoor
set_option linter.all false
open Go.RowKit
attribute [local irreducible] errV eV
variable {g w : World} {L M : List HP} {ad : Nat → Addr} {p d pv ev : Nat} {dk : Dk} {f : ByteArray → Option (List UInt8)} {V U : Vw} {q r c n : Nat} {b mb : List UInt8}

/-- An entry that may not come. -/
theorem appBad_sl (hM : ErrM ad g) (hs : Mem g w (LogC p d ev V q c n :: DiskC d dk :: L)) {k : Int} {x : Mf} {e o : SA} (hm : MfR g L x e o) (hob : x.obs.length ≤ 1000000) (hap : (V.apply k x).1.1 ≠ 0) : Calls Tryz.prog 13 #[.pointer (some ⟨p, 0, none⟩), .agg (.int .i64 k :: mfL x e o).toArray] w (Ret fun v w' => ∃ eb, v = flV ad (V.apply k x).1 eb ∧ Mem g w' (flC ad (V.apply k x).1 eb :: LogC p d ev V q c n :: DiskC d dk :: L)) := by
  obtain ⟨pv, hs⟩ := hs.openL
  refine calls_cw Tryz.func13 rfl rfl ?_
  skip
  refine cw_seq (cw_region ?_)
  refine lw_box (v := .agg _) hs rfl rfl ?_
  clear hs
  intro b3 w hs
  try simp only [List.set_cons_succ, List.set_cons_zero] at hs
  refine lw_val rfl (run_assign (v := .nilIface) rfl) ?_
  refine lw_nil (cw_seq (cw_region ?_))
  refine lw_val rfl (run_move (v := .pointer (some _)) rfl) ?_
  refine lw_val rfl (run_nilCheckP rfl) ?_
  refine lw_val rfl (run_fieldAddr (o' := 2) Tryz.underlying74 rfl sz33 rfl rfl rfl) ?_
  refine lw_val rfl (run_load Tryz.underlying33 rfl rfl (hs.cellAt 1 rfl rfl)) ?_
  refine lw_call rfl en16 (cloneq_sl (hs.arr [2, 0, 1, 3] 4 (by decide))) ?_
  clear hs
  rintro _ w ⟨u, rfl, hs⟩
  refine lw_val rfl (run_assign (v := .pointer (some _)) rfl) ?_
  refine lw_nil ?_
  refine cw_seq ?_
  refine cw_seq (cw_region ?_)
  refine lw_val rfl (run_move (v := .pointer (some _)) rfl) ?_
  refine lw_val rfl (run_loadRow hs 2 rfl Tryz.underlying41 sz41 rfl) ?_
  refine lw_call rfl en14 (applyq_sl hM.toV hs k hm.cons.cons.cons.cons hob) ?_
  clear hs
  rintro _ w ⟨eb, rfl, hs⟩
  refine lw_val rfl (run_assign (v := flV ad _ _) rfl) ?_
  refine lw_nil (cw_seq (cw_region ?_))
  refine lw_val rfl (run_move (v := flV ad _ _) rfl) ?_
  refine lw_val rfl (run_neF (.inr hap) rfl) ?_
  refine lw_nil ?_
  refine cw_ift rfl ((by rw [decide_eq_false hap]; rfl)) ?_
  refine cw_seq (cw_region ?_)
  refine lw_val rfl (run_move (v := flV ad _ _) rfl) ?_
  refine lw_val rfl (run_assign (v := flV ad _ _) rfl) ?_
  refine lw_nil ?_
  refine cw_ret ?_
  refine res1 (v := flV ad _ _) rfl rfl ?_
  exact ⟨_, rfl, eb, rfl, (Mem.closeL (hs.arr [4, 2, 0, 5] 6 (by decide))).arr [1, 0, 2] 3 (by decide)⟩
/-- What an Append of an entry that may come leaves. -/
def AppOut (f : ByteArray → Option (List UInt8)) (dk : Dk) (ev : Nat) (V1 : Vw) (q c : Nat) (mb fr : List UInt8) (k : Nat) (dk2 : Dk) (V' : Vw) (q' c' n' : Nat) : Prop :=
  dk2.room = dk.room ∧ dk2.calls ≤ dk.calls + 9 ∧
  (k = 0 ∧ dk2.down = false ∧ (dk.armed = 0 → dk2.armed = 0) ∧ V' = V1 ∧ q' = q + 1 ∧ (c + 1 < ev ∧ c' = c + 1 ∧ n' = mb.length + fr.length ∧ LgI (updF f mtN (mb ++ fr)) dk2 ∨ ev ≤ c + 1 ∧ c' = 0 ∧ n' = 0 ∧ LgI (updF (updF (updF f mtN (mb ++ fr)) snN (sealL (snapB (q + 1) V1))) mtN []) dk2) ∨
   k = 0 ∧ dk2.down = true ∧ dk.armed ≠ 0 ∧ (∀ picks, LgI (updF f mtN (mb ++ fr)) (dk2.crash picks) ∨ LgI (updF (updF f mtN (mb ++ fr)) snN (sealL (snapB (q + 1) V1))) (dk2.crash picks)) ∨
   k = 110 ∧ dk2.down = true ∧ dk.armed ≠ 0 ∧ ∀ picks, ∃ j, LgI (updF f mtN (mb ++ fr.take j)) (dk2.crash picks))
set_option maxHeartbeats 2000000 in
theorem appOk_sl (hM : ErrM ad g) (hs : Mem g w (LogC p d ev V q c n :: DiskC d dk :: L)) (hI : LgI f dk) (hf : f mtN = some mb) (hn : n = mb.length) (hcl : dk.calls < 700000) (hr : 1000000 ≤ dk.room) (hu : V.sums) (hl : V.length ≤ 31) (hq : q < 1000000) (hc : c ≤ 1000000) (hb : mb.length + 6021 ≤ 200000) {k : Int} {x : Mf} {e o : SA} (hm : MfR g L x e o) (hob : x.obs.length ≤ 1000000) (hsu : ∀ o ∈ x.obs, o.2.2 < 4294967296) (hap : (V.apply k x).1 = (0, none)) :
    Calls Tryz.prog 13 #[.pointer (some ⟨p, 0, none⟩), .agg (.int .i64 k :: mfL x e o).toArray] w (Ret fun v w' => ∃ kr dk2 V' q' c' n', v = errV ad kr ∧ AppOut f dk ev (V.apply k x).2 q c mb (frame (q + 1) (k, x)) kr dk2 V' q' c' n' ∧ Mem g w' (LogC p d ev V' q' c' n' :: DiskC d dk2 :: L)) := by
  subst hn
  have hK := hM.toK
  obtain ⟨pv, hs⟩ := hs.openL
  have hen := Vw.apply_en hap
  have hok : EnOk (k, x) := ⟨hen.1, hen.2.1, hen.2.2, hsu⟩
  have hfl := frame_le (q := q + 1) hok
  obtain ⟨fr, hfr⟩ : ∃ fr, fr = frame (q + 1) (k, x) := ⟨_, rfl⟩
  have hlen := V.apply_len k x
  have hsu1 := Vw.apply_sums hu (k := k) hsu
  obtain ⟨V1, hV1⟩ : ∃ V1, V1 = (V.apply k x).2 := ⟨_, rfl⟩
  rw [← hfr] at hfl
  rw [← hV1] at hlen hsu1
  obtain ⟨ka, da, hap1, har, hac, hacase⟩ := hI.grow mem_mt hf (x := fr) (by omega) (by show 2 * 2 * 200000 + 200000 ≤ dk.room; omega)
  refine calls_cw Tryz.func13 rfl rfl ?_
  skip
  refine cw_seq (cw_region ?_)
  refine lw_box (v := .agg _) hs rfl rfl ?_
  clear hs
  intro b3 w hs
  try simp only [List.set_cons_succ, List.set_cons_zero] at hs
  refine lw_val rfl (run_assign (v := .nilIface) rfl) ?_
  refine lw_nil (cw_seq (cw_region ?_))
  refine lw_val rfl (run_move (v := .pointer (some _)) rfl) ?_
  refine lw_val rfl (run_nilCheckP rfl) ?_
  refine lw_val rfl (run_fieldAddr (o' := 2) Tryz.underlying74 rfl sz33 rfl rfl rfl) ?_
  refine lw_val rfl (run_load Tryz.underlying33 rfl rfl (hs.cellAt 1 rfl rfl)) ?_
  refine lw_call rfl en16 (cloneq_sl (hs.arr [2, 0, 1, 3] 4 (by decide))) ?_
  clear hs
  rintro _ w ⟨u, rfl, hs⟩
  refine lw_val rfl (run_assign (v := .pointer (some _)) rfl) ?_
  refine lw_nil ?_
  refine cw_seq ?_
  refine cw_seq (cw_region ?_)
  refine lw_val rfl (run_move (v := .pointer (some _)) rfl) ?_
  refine lw_val rfl (run_loadRow hs 2 rfl Tryz.underlying41 sz41 rfl) ?_
  refine lw_call rfl en14 (applyq_sl hM.toV hs k hm.cons.cons.cons.cons hob) ?_
  clear hs
  rintro _ w ⟨eb, rfl, hs⟩
  rw [hap] at hs ⊢
  replace hs := hs.tail
  rw [← hV1] at hs ⊢
  refine lw_val rfl (run_assign (v := errV ad _) rfl) ?_
  refine lw_nil (cw_seq (cw_region ?_))
  refine lw_val rfl (run_move (v := errV ad _) rfl) ?_
  refine lw_val rfl (run_neerrn (ad := ad) rfl) ?_
  refine lw_nil ?_
  refine cw_iff rfl (rfl) ?_
  refine cw_skip ?_
  refine cw_seq ?_
  refine cw_seq (cw_region ?_)
  refine lw_val rfl (run_move (v := .pointer (some _)) rfl) ?_
  refine lw_val rfl (run_nilCheckP rfl) ?_
  refine lw_val rfl (run_fieldAddr (o' := 3) Tryz.underlying74 rfl sz2 rfl rfl rfl) ?_
  refine lw_val rfl (run_load Tryz.underlying2 rfl rfl (hs.cellAt 3 rfl rfl)) ?_
  refine lw_val rfl (run_eqi rfl rfl) ?_
  refine lw_nil ?_
  refine cw_iff rfl (decide_eq_false (by omega)) ?_
  refine cw_skip ?_
  refine cw_seq ?_
  refine cw_drawS mixes hs ?_
  intro w tr hK
  replace hs := tr _ hs
  clear tr
  refine aw_take 0 rfl (by kernel_rfl) (by kernel_rfl) (by kernel_rfl) rfl (fun w hs => run_move (v := .pointer (some _)) rfl) hK ?_
  refine aw_take 1 rfl (by kernel_rfl) (by kernel_rfl) (by kernel_rfl) rfl (fun w hs => run_nilCheckP rfl) hK ?_
  refine aw_take 2 rfl (by kernel_rfl) (by kernel_rfl) (by kernel_rfl) rfl (fun w hs => run_fieldAddr (o' := 3) Tryz.underlying74 rfl sz2 rfl rfl rfl) hK ?_
  refine aw_take 3 rfl (by kernel_rfl) (by kernel_rfl) (by kernel_rfl) rfl (fun w hs => run_load Tryz.underlying2 rfl rfl (hs.cellAt 3 rfl rfl)) hK ?_
  refine aw_take 4 rfl (by kernel_rfl) (by kernel_rfl) (by kernel_rfl) rfl (fun w hs => run_add64 rfl rfl (c := ((q + 1 : Nat) : Int)) (by omega) (inI (by omega) (by omega))) hK ?_
  refine aw_take 5 rfl (by kernel_rfl) (by kernel_rfl) (by kernel_rfl) rfl (fun w hs => run_loadRow hs 2 rfl Tryz.underlying41 sz41 rfl) hK ?_
  refine aw_ready [6] (by kernel_rfl) (by simp) ?_
  refine ⟨⟨_, rfl, ?_⟩, trivial⟩
  refine lw_call rfl en38 (enBytes_sl hM.toV hs (q := q + 1) (by omega) hm.cons.cons.cons.cons.cons hok) ?_
  clear hs
  rintro _ w ⟨s33, rfl, hs⟩
  rw [← hfr] at hs ⊢
  clear hK
  have hK := hs.tail
  refine lw_nil ⟨hK, ?_⟩
  refine aw_take 7 rfl (by kernel_rfl) (by kernel_rfl) (by kernel_rfl) rfl (fun w hs => run_move (v := .tuple _) rfl) hK ?_
  refine aw_take 8 rfl (by kernel_rfl) (by kernel_rfl) (by kernel_rfl) rfl (fun w hs => run_extract (v := .slice _ _ _) rfl rfl) hK ?_
  refine aw_take 9 rfl (by kernel_rfl) (by kernel_rfl) (by kernel_rfl) rfl (fun w hs => run_extract (v := .nilIface) rfl rfl) hK ?_
  refine aw_take 10 rfl (by kernel_rfl) (by kernel_rfl) (by kernel_rfl) rfl (fun w hs => run_assign (v := .slice _ _ _) rfl) hK ?_
  refine aw_take 11 rfl (by kernel_rfl) (by kernel_rfl) (by kernel_rfl) rfl (fun w hs => run_assign (v := .nilIface) rfl) hK ?_
  refine aw_done (by kernel_rfl) ?_
  clear hK
  refine cw_seq ?_
  refine cw_seq (cw_region ?_)
  refine lw_val rfl (run_move (v := .nilIface) rfl) ?_
  refine lw_val rfl (run_nenn rfl) ?_
  refine lw_nil ?_
  refine cw_iff rfl (rfl) ?_
  refine cw_skip ?_
  refine cw_seq (cw_region ?_)
  refine lw_val rfl (run_move (v := .pointer (some _)) rfl) ?_
  refine lw_val rfl (run_nilCheckP rfl) ?_
  refine lw_val rfl (run_fieldAddr (o' := 0) Tryz.underlying74 rfl sz25 rfl rfl rfl) ?_
  refine lw_val rfl (run_load Tryz.underlying25 rfl rfl (hs.cellAt 4 rfl rfl)) ?_
  refine lw_val rfl (run_move (v := .slice _ _ _) rfl) ?_
  refine lw_call rfl en19 (append_sl hM.toK (hs.arr [5, 0, 1, 2, 3, 4] 6 (by decide)) (by omega) mtN (x := fr) (Rd.own 0 rfl) rfl (by omega) hap1) ?_
  clear hs
  rintro _ w ⟨rfl, hs⟩
  refine lw_val rfl (run_assign (v := errV ad _) rfl) ?_
  refine lw_nil ?_
  refine cw_seq ?_
  refine cw_seq ?_
  obtain ⟨rfl, hdn, hne, hcr⟩ | ⟨rfl, hup, k2, d2, hsy, hsr, hsc, hscase⟩ := hacase
  ·
   refine cw_region ?_
   refine lw_val rfl (run_move (v := errV ad _) rfl) ?_
   refine lw_val rfl (run_eqerrn (ad := ad) rfl) ?_
   refine lw_nil ?_
   refine cw_iff rfl (rfl) ?_
   refine cw_skip ?_
   refine cw_seq ?_
   refine cw_seq (cw_region ?_)
   refine lw_val rfl (run_move (v := errV ad _) rfl) ?_
   refine lw_val rfl (run_neerrn (ad := ad) rfl) ?_
   refine lw_nil ?_
   refine cw_ift rfl (rfl) ?_
   refine cw_seq (cw_region ?_)
   refine lw_val rfl (run_move (v := errV ad _) rfl) ?_
   refine lw_val rfl (run_assign (v := errV ad _) rfl) ?_
   refine lw_nil ?_
   refine cw_ret ?_
   refine res1 (v := errV ad _) rfl rfl ?_
   exact ⟨_, rfl, 110, da, V, q, c, mb.length, rfl, ⟨har, by omega, .inr (.inr ⟨rfl, hdn, hne, fun picks => ⟨0, by rw [List.take_zero, List.append_nil, updF_self hf]; exact hcr (hs.openD).1 picks⟩⟩)⟩, Mem.closeL (hs.arr [5, 3, 0] 6 (by decide))⟩
  ·
   refine cw_region ?_
   refine lw_val rfl (run_move (v := errV ad _) rfl) ?_
   refine lw_val rfl (run_eqerrn (ad := ad) rfl) ?_
   refine lw_nil ?_
   refine cw_ift rfl (rfl) ?_
   refine cw_seq (cw_region ?_)
   refine lw_val rfl (run_move (v := .pointer (some _)) rfl) ?_
   refine lw_val rfl (run_nilCheckP rfl) ?_
   refine lw_val rfl (run_fieldAddr (o' := 0) Tryz.underlying74 rfl sz25 rfl rfl rfl) ?_
   refine lw_val rfl (run_load Tryz.underlying25 rfl rfl (hs.cellAt 5 rfl rfl)) ?_
   refine lw_call rfl en39 (sync_sl hM.toK hs (by omega) mtN hsy) ?_
   clear hs
   rintro _ w ⟨rfl, hs⟩
   refine lw_val rfl (run_assign (v := errV ad _) rfl) ?_
   refine lw_nil ?_
   refine cw_seq ?_
   obtain ⟨rfl, hup2, har2, hI2⟩ | ⟨rfl, hdn2, hne2, hcr2⟩ := hscase
   ·
    refine cw_region ?_
    refine lw_val rfl (run_move (v := errV ad _) rfl) ?_
    refine lw_val rfl (run_neerrn (ad := ad) rfl) ?_
    refine lw_nil ?_
    refine cw_iff rfl (rfl) ?_
    refine cw_skip ?_
    refine cw_seq ?_
    refine cw_seq (cw_region ?_)
    refine lw_val rfl (run_move (v := errV ad _) rfl) ?_
    refine lw_val rfl (run_neerrn (ad := ad) rfl) ?_
    refine lw_nil ?_
    refine cw_iff rfl (rfl) ?_
    refine cw_skip ?_
    refine cw_seq ?_
    have hI3 := hI2 (hs.openD).1
    refine cw_drawS mixes (hs.drop 5) ?_
    intro w tr hK
    replace hs := tr _ hs
    clear tr
    refine aw_take 0 rfl (by kernel_rfl) (by kernel_rfl) (by kernel_rfl) rfl (fun w hs => run_move (v := .pointer (some _)) rfl) hK ?_
    refine aw_take 1 rfl (by kernel_rfl) (by kernel_rfl) (by kernel_rfl) rfl (fun w hs => run_move (v := .pointer (some _)) rfl) hK ?_
    refine aw_take 2 rfl (by kernel_rfl) (by kernel_rfl) (by kernel_rfl) rfl (fun w hs => run_move (v := .pointer (some _)) rfl) hK ?_
    refine aw_take 3 rfl (by kernel_rfl) (by kernel_rfl) (by kernel_rfl) rfl (fun w hs => run_move (v := .pointer (some _)) rfl) hK ?_
    refine aw_take 4 rfl (by kernel_rfl) (by kernel_rfl) (by kernel_rfl) rfl (fun w hs => run_move (v := .pointer (some _)) rfl) hK ?_
    refine aw_take 5 rfl (by kernel_rfl) (by kernel_rfl) (by kernel_rfl) rfl (fun w hs => run_nilCheckP rfl) hK ?_
    refine aw_take 6 rfl (by kernel_rfl) (by kernel_rfl) (by kernel_rfl) rfl (fun w hs => run_fieldAddr (o' := 3) Tryz.underlying74 rfl sz2 rfl rfl rfl) hK ?_
    refine aw_take 9 rfl (by kernel_rfl) (by kernel_rfl) (by kernel_rfl) rfl (fun w hs => run_move (v := .pointer (some _)) rfl) hK ?_
    refine aw_take 10 rfl (by kernel_rfl) (by kernel_rfl) (by kernel_rfl) rfl (fun w hs => run_nilCheckP rfl) hK ?_
    refine aw_take 11 rfl (by kernel_rfl) (by kernel_rfl) (by kernel_rfl) rfl (fun w hs => run_fieldAddr (o' := 5) Tryz.underlying74 rfl sz3 rfl rfl rfl) hK ?_
    refine aw_take 13 rfl (by kernel_rfl) (by kernel_rfl) (by kernel_rfl) rfl (fun w hs => run_move (v := .slice _ _ _) rfl) hK ?_
    refine aw_take 14 rfl (by kernel_rfl) (by kernel_rfl) (by kernel_rfl) rfl (fun w hs => run_lenS Tryz.underlying23 rfl) hK ?_
    refine aw_ready [7, 12] (by kernel_rfl) (by simp) ?_
    refine ⟨⟨_, rfl, ?_⟩, ⟨_, rfl, ?_⟩, trivial⟩
    ·
     refine lw_val rfl (run_load Tryz.underlying2 rfl rfl (hs.cellAt 5 rfl rfl)) ?_
     clear hK
     have hK := hs.drop 5
     refine lw_nil ⟨hK, ?_⟩
     refine aw_take 8 rfl (by kernel_rfl) (by kernel_rfl) (by kernel_rfl) rfl (fun w hs => run_add64 rfl rfl (c := ((q + 1 : Nat) : Int)) (by omega) (inI (by omega) (by omega))) hK ?_
     refine aw_ready [12] (by kernel_rfl) (by simp) ?_
     refine ⟨⟨_, rfl, ?_⟩, trivial⟩
     refine lw_val rfl (run_load Tryz.underlying3 rfl rfl (hs.cellAt 5 rfl rfl)) ?_
     clear hK
     have hK := hs.drop 5
     refine lw_nil ⟨hK, ?_⟩
     refine aw_take 15 rfl (by kernel_rfl) (by kernel_rfl) (by kernel_rfl) rfl (fun w hs => run_add64 rfl rfl (c := ((mb.length + fr.length : Nat) : Int)) (by omega) (inI (by omega) (by omega))) hK ?_
     refine aw_take 16 rfl (by kernel_rfl) (by kernel_rfl) (by kernel_rfl) rfl (fun w hs => run_nilCheckP rfl) hK ?_
     refine aw_take 17 rfl (by kernel_rfl) (by kernel_rfl) (by kernel_rfl) rfl (fun w hs => run_fieldAddr (o' := 2) Tryz.underlying74 rfl sz33 rfl rfl rfl) hK ?_
     refine aw_ready [18] (by kernel_rfl) (by simp) ?_
     refine ⟨⟨_, rfl, ?_⟩, trivial⟩
     refine lw_store (v := .pointer (some _)) hs 5 rfl sz33 rfl rfl rfl rfl ?_
     clear hs
     intro w hs
     try simp only [List.set_cons_succ, List.set_cons_zero] at hs
     clear hK
     have hK := hs.drop 5
     refine lw_nil ⟨hK, ?_⟩
     refine aw_take 19 rfl (by kernel_rfl) (by kernel_rfl) (by kernel_rfl) rfl (fun w hs => run_nilCheckP rfl) hK ?_
     refine aw_take 20 rfl (by kernel_rfl) (by kernel_rfl) (by kernel_rfl) rfl (fun w hs => run_fieldAddr (o' := 3) Tryz.underlying74 rfl sz2 rfl rfl rfl) hK ?_
     refine aw_ready [21] (by kernel_rfl) (by simp) ?_
     refine ⟨⟨_, rfl, ?_⟩, trivial⟩
     refine lw_store (v := .int .i64 _) hs 5 rfl sz2 rfl rfl rfl rfl ?_
     clear hs
     intro w hs
     try simp only [List.set_cons_succ, List.set_cons_zero] at hs
     clear hK
     have hK := hs.drop 5
     refine lw_nil ⟨hK, ?_⟩
     refine aw_take 22 rfl (by kernel_rfl) (by kernel_rfl) (by kernel_rfl) rfl (fun w hs => run_nilCheckP rfl) hK ?_
     refine aw_take 23 rfl (by kernel_rfl) (by kernel_rfl) (by kernel_rfl) rfl (fun w hs => run_fieldAddr (o' := 5) Tryz.underlying74 rfl sz3 rfl rfl rfl) hK ?_
     refine aw_ready [24] (by kernel_rfl) (by simp) ?_
     refine ⟨⟨_, rfl, ?_⟩, trivial⟩
     refine lw_store (v := .int .i64 _) hs 5 rfl sz3 rfl rfl rfl rfl ?_
     clear hs
     intro w hs
     try simp only [List.set_cons_succ, List.set_cons_zero] at hs
     clear hK
     have hK := hs.drop 5
     refine lw_nil ⟨hK, ?_⟩
     refine aw_done (by kernel_rfl) ?_
     clear hK
     refine cw_seq ?_
     refine cw_seq (cw_region ?_)
     refine lw_val rfl (run_move (v := .pointer (some _)) rfl) ?_
     refine lw_val rfl (run_nilCheckP rfl) ?_
     refine lw_val rfl (run_fieldAddr (o' := 4) Tryz.underlying74 rfl sz3 rfl rfl rfl) ?_
     refine lw_val rfl (run_load Tryz.underlying3 rfl rfl (hs.cellAt 5 rfl rfl)) ?_
     refine lw_val rfl (run_add64 rfl rfl (c := ((c + 1 : Nat) : Int)) (by omega) (inI (by omega) (by omega))) ?_
     refine lw_val rfl (run_nilCheckP rfl) ?_
     refine lw_val rfl (run_fieldAddr (o' := 4) Tryz.underlying74 rfl sz3 rfl rfl rfl) ?_
     refine lw_store (v := .int .i64 _) hs 5 rfl sz3 rfl rfl rfl rfl ?_
     clear hs
     intro w hs
     try simp only [List.set_cons_succ, List.set_cons_zero] at hs
     refine lw_nil ?_
     refine cw_seq ?_
     refine cw_drawS mixes hs ?_
     intro w tr hK
     replace hs := tr _ hs
     clear tr
     refine aw_take 0 rfl (by kernel_rfl) (by kernel_rfl) (by kernel_rfl) rfl (fun w hs => run_move (v := .pointer (some _)) rfl) hK ?_
     refine aw_take 1 rfl (by kernel_rfl) (by kernel_rfl) (by kernel_rfl) rfl (fun w hs => run_nilCheckP rfl) hK ?_
     refine aw_take 2 rfl (by kernel_rfl) (by kernel_rfl) (by kernel_rfl) rfl (fun w hs => run_fieldAddr (o' := 4) Tryz.underlying74 rfl sz3 rfl rfl rfl) hK ?_
     refine aw_take 3 rfl (by kernel_rfl) (by kernel_rfl) (by kernel_rfl) rfl (fun w hs => run_load Tryz.underlying3 rfl rfl (hs.cellAt 5 rfl rfl)) hK ?_
     refine aw_take 4 rfl (by kernel_rfl) (by kernel_rfl) (by kernel_rfl) rfl (fun w hs => run_move (v := .pointer (some _)) rfl) hK ?_
     refine aw_take 5 rfl (by kernel_rfl) (by kernel_rfl) (by kernel_rfl) rfl (fun w hs => run_nilCheckP rfl) hK ?_
     refine aw_take 6 rfl (by kernel_rfl) (by kernel_rfl) (by kernel_rfl) rfl (fun w hs => run_fieldAddr (o' := 1) Tryz.underlying74 rfl sz3 rfl rfl rfl) hK ?_
     refine aw_take 7 rfl (by kernel_rfl) (by kernel_rfl) (by kernel_rfl) rfl (fun w hs => run_load Tryz.underlying3 rfl rfl (hs.cellAt 5 rfl rfl)) hK ?_
     refine aw_take 8 rfl (by kernel_rfl) (by kernel_rfl) (by kernel_rfl) rfl (fun w hs => run_geq rfl rfl) hK ?_
     refine aw_done (by kernel_rfl) ?_
     clear hK
     refine cw_if rfl ?_ ?_
     ·
      intro h103
      have g103 := of_decide_eq_true h103
      refine cw_region ?_
      refine lw_val rfl (run_move (v := .pointer (some _)) rfl) ?_
      refine lw_call rfl en23 (snapM_sl (q := q + 1) (c := c + 1) (n := mb.length + fr.length) (mb := mb ++ fr) hM (Mem.closeL (hs.arr [5, 2, 0] 6 (by decide))) hI3 (updF_same _ _ _) (by omega) (by omega) hsu1 (by omega) (by omega)) ?_
      clear hs
      rintro _ w ⟨ks, d3, rfl, hso, hs⟩
      refine lw_nil (cw_seq (cw_region ?_))
      refine lw_val rfl (run_assign (v := .nilIface) rfl) ?_
      refine lw_nil ?_
      refine cw_ret ?_
      refine res1 (v := .nilIface) rfl rfl ?_
      obtain ⟨r1, r2, hcs⟩ := hso
      rcases hcs with ⟨rfl, hu3, ha3, hI4⟩ | ⟨rfl, hd3, hn3, hI4⟩
      exact ⟨_, rfl, 0, d3, V1, q + 1, 0, 0, (errV_zero ad).symm, ⟨r1.trans hsr, by omega, .inl ⟨rfl, hu3, fun e => ha3 (har2 e), rfl, rfl, .inr ⟨by omega, rfl, rfl, hI4⟩⟩⟩, hs⟩
      exact ⟨_, rfl, 0, d3, V1, q + 1, c + 1, _, (errV_zero ad).symm, ⟨r1.trans hsr, by omega, .inr (.inl ⟨rfl, hd3, fun e => hn3 (har2 e), hI4⟩)⟩, hs⟩
     ·
      intro h103
      have g103 := of_decide_eq_false h103
      refine cw_skip ?_
      refine cw_seq (cw_region ?_)
      refine lw_val rfl (run_assign (v := .nilIface) rfl) ?_
      refine lw_nil ?_
      refine cw_ret ?_
      refine res1 (v := .nilIface) rfl rfl ?_
      exact ⟨_, rfl, 0, d2, V1, q + 1, c + 1, mb.length + fr.length, (errV_zero ad).symm, ⟨hsr, by omega, .inl ⟨rfl, hup2, har2, rfl, rfl, .inl ⟨by omega, rfl, rfl, hI3⟩⟩⟩, Mem.closeL (hs.arr [5, 2, 0] 6 (by decide))⟩
    ·
     refine lw_val rfl (run_load Tryz.underlying3 rfl rfl (hs.cellAt 5 rfl rfl)) ?_
     clear hK
     have hK := hs.drop 5
     refine lw_nil ⟨hK, ?_⟩
     refine aw_take 15 rfl (by kernel_rfl) (by kernel_rfl) (by kernel_rfl) rfl (fun w hs => run_add64 rfl rfl (c := ((mb.length + fr.length : Nat) : Int)) (by omega) (inI (by omega) (by omega))) hK ?_
     refine aw_ready [7] (by kernel_rfl) (by simp) ?_
     refine ⟨⟨_, rfl, ?_⟩, trivial⟩
     refine lw_val rfl (run_load Tryz.underlying2 rfl rfl (hs.cellAt 5 rfl rfl)) ?_
     clear hK
     have hK := hs.drop 5
     refine lw_nil ⟨hK, ?_⟩
     refine aw_take 8 rfl (by kernel_rfl) (by kernel_rfl) (by kernel_rfl) rfl (fun w hs => run_add64 rfl rfl (c := ((q + 1 : Nat) : Int)) (by omega) (inI (by omega) (by omega))) hK ?_
     refine aw_take 16 rfl (by kernel_rfl) (by kernel_rfl) (by kernel_rfl) rfl (fun w hs => run_nilCheckP rfl) hK ?_
     refine aw_take 17 rfl (by kernel_rfl) (by kernel_rfl) (by kernel_rfl) rfl (fun w hs => run_fieldAddr (o' := 2) Tryz.underlying74 rfl sz33 rfl rfl rfl) hK ?_
     refine aw_ready [18] (by kernel_rfl) (by simp) ?_
     refine ⟨⟨_, rfl, ?_⟩, trivial⟩
     refine lw_store (v := .pointer (some _)) hs 5 rfl sz33 rfl rfl rfl rfl ?_
     clear hs
     intro w hs
     try simp only [List.set_cons_succ, List.set_cons_zero] at hs
     clear hK
     have hK := hs.drop 5
     refine lw_nil ⟨hK, ?_⟩
     refine aw_take 19 rfl (by kernel_rfl) (by kernel_rfl) (by kernel_rfl) rfl (fun w hs => run_nilCheckP rfl) hK ?_
     refine aw_take 20 rfl (by kernel_rfl) (by kernel_rfl) (by kernel_rfl) rfl (fun w hs => run_fieldAddr (o' := 3) Tryz.underlying74 rfl sz2 rfl rfl rfl) hK ?_
     refine aw_ready [21] (by kernel_rfl) (by simp) ?_
     refine ⟨⟨_, rfl, ?_⟩, trivial⟩
     refine lw_store (v := .int .i64 _) hs 5 rfl sz2 rfl rfl rfl rfl ?_
     clear hs
     intro w hs
     try simp only [List.set_cons_succ, List.set_cons_zero] at hs
     clear hK
     have hK := hs.drop 5
     refine lw_nil ⟨hK, ?_⟩
     refine aw_take 22 rfl (by kernel_rfl) (by kernel_rfl) (by kernel_rfl) rfl (fun w hs => run_nilCheckP rfl) hK ?_
     refine aw_take 23 rfl (by kernel_rfl) (by kernel_rfl) (by kernel_rfl) rfl (fun w hs => run_fieldAddr (o' := 5) Tryz.underlying74 rfl sz3 rfl rfl rfl) hK ?_
     refine aw_ready [24] (by kernel_rfl) (by simp) ?_
     refine ⟨⟨_, rfl, ?_⟩, trivial⟩
     refine lw_store (v := .int .i64 _) hs 5 rfl sz3 rfl rfl rfl rfl ?_
     clear hs
     intro w hs
     try simp only [List.set_cons_succ, List.set_cons_zero] at hs
     clear hK
     have hK := hs.drop 5
     refine lw_nil ⟨hK, ?_⟩
     refine aw_done (by kernel_rfl) ?_
     clear hK
     refine cw_seq ?_
     refine cw_seq (cw_region ?_)
     refine lw_val rfl (run_move (v := .pointer (some _)) rfl) ?_
     refine lw_val rfl (run_nilCheckP rfl) ?_
     refine lw_val rfl (run_fieldAddr (o' := 4) Tryz.underlying74 rfl sz3 rfl rfl rfl) ?_
     refine lw_val rfl (run_load Tryz.underlying3 rfl rfl (hs.cellAt 5 rfl rfl)) ?_
     refine lw_val rfl (run_add64 rfl rfl (c := ((c + 1 : Nat) : Int)) (by omega) (inI (by omega) (by omega))) ?_
     refine lw_val rfl (run_nilCheckP rfl) ?_
     refine lw_val rfl (run_fieldAddr (o' := 4) Tryz.underlying74 rfl sz3 rfl rfl rfl) ?_
     refine lw_store (v := .int .i64 _) hs 5 rfl sz3 rfl rfl rfl rfl ?_
     clear hs
     intro w hs
     try simp only [List.set_cons_succ, List.set_cons_zero] at hs
     refine lw_nil ?_
     refine cw_seq ?_
     refine cw_drawS mixes hs ?_
     intro w tr hK
     replace hs := tr _ hs
     clear tr
     refine aw_take 0 rfl (by kernel_rfl) (by kernel_rfl) (by kernel_rfl) rfl (fun w hs => run_move (v := .pointer (some _)) rfl) hK ?_
     refine aw_take 1 rfl (by kernel_rfl) (by kernel_rfl) (by kernel_rfl) rfl (fun w hs => run_nilCheckP rfl) hK ?_
     refine aw_take 2 rfl (by kernel_rfl) (by kernel_rfl) (by kernel_rfl) rfl (fun w hs => run_fieldAddr (o' := 4) Tryz.underlying74 rfl sz3 rfl rfl rfl) hK ?_
     refine aw_take 3 rfl (by kernel_rfl) (by kernel_rfl) (by kernel_rfl) rfl (fun w hs => run_load Tryz.underlying3 rfl rfl (hs.cellAt 5 rfl rfl)) hK ?_
     refine aw_take 4 rfl (by kernel_rfl) (by kernel_rfl) (by kernel_rfl) rfl (fun w hs => run_move (v := .pointer (some _)) rfl) hK ?_
     refine aw_take 5 rfl (by kernel_rfl) (by kernel_rfl) (by kernel_rfl) rfl (fun w hs => run_nilCheckP rfl) hK ?_
     refine aw_take 6 rfl (by kernel_rfl) (by kernel_rfl) (by kernel_rfl) rfl (fun w hs => run_fieldAddr (o' := 1) Tryz.underlying74 rfl sz3 rfl rfl rfl) hK ?_
     refine aw_take 7 rfl (by kernel_rfl) (by kernel_rfl) (by kernel_rfl) rfl (fun w hs => run_load Tryz.underlying3 rfl rfl (hs.cellAt 5 rfl rfl)) hK ?_
     refine aw_take 8 rfl (by kernel_rfl) (by kernel_rfl) (by kernel_rfl) rfl (fun w hs => run_geq rfl rfl) hK ?_
     refine aw_done (by kernel_rfl) ?_
     clear hK
     refine cw_if rfl ?_ ?_
     ·
      intro h103
      have g103 := of_decide_eq_true h103
      refine cw_region ?_
      refine lw_val rfl (run_move (v := .pointer (some _)) rfl) ?_
      refine lw_call rfl en23 (snapM_sl (q := q + 1) (c := c + 1) (n := mb.length + fr.length) (mb := mb ++ fr) hM (Mem.closeL (hs.arr [5, 2, 0] 6 (by decide))) hI3 (updF_same _ _ _) (by omega) (by omega) hsu1 (by omega) (by omega)) ?_
      clear hs
      rintro _ w ⟨ks, d3, rfl, hso, hs⟩
      refine lw_nil (cw_seq (cw_region ?_))
      refine lw_val rfl (run_assign (v := .nilIface) rfl) ?_
      refine lw_nil ?_
      refine cw_ret ?_
      refine res1 (v := .nilIface) rfl rfl ?_
      obtain ⟨r1, r2, hcs⟩ := hso
      rcases hcs with ⟨rfl, hu3, ha3, hI4⟩ | ⟨rfl, hd3, hn3, hI4⟩
      exact ⟨_, rfl, 0, d3, V1, q + 1, 0, 0, (errV_zero ad).symm, ⟨r1.trans hsr, by omega, .inl ⟨rfl, hu3, fun e => ha3 (har2 e), rfl, rfl, .inr ⟨by omega, rfl, rfl, hI4⟩⟩⟩, hs⟩
      exact ⟨_, rfl, 0, d3, V1, q + 1, c + 1, _, (errV_zero ad).symm, ⟨r1.trans hsr, by omega, .inr (.inl ⟨rfl, hd3, fun e => hn3 (har2 e), hI4⟩)⟩, hs⟩
     ·
      intro h103
      have g103 := of_decide_eq_false h103
      refine cw_skip ?_
      refine cw_seq (cw_region ?_)
      refine lw_val rfl (run_assign (v := .nilIface) rfl) ?_
      refine lw_nil ?_
      refine cw_ret ?_
      refine res1 (v := .nilIface) rfl rfl ?_
      exact ⟨_, rfl, 0, d2, V1, q + 1, c + 1, mb.length + fr.length, (errV_zero ad).symm, ⟨hsr, by omega, .inl ⟨rfl, hup2, har2, rfl, rfl, .inl ⟨by omega, rfl, rfl, hI3⟩⟩⟩, Mem.closeL (hs.arr [5, 2, 0] 6 (by decide))⟩
   ·
    refine cw_region ?_
    refine lw_val rfl (run_move (v := errV ad _) rfl) ?_
    refine lw_val rfl (run_neerrn (ad := ad) rfl) ?_
    refine lw_nil ?_
    refine cw_ift rfl (rfl) ?_
    refine cw_drawS mixes (hs.drop 0) ?_
    intro w tr hK
    replace hs := tr _ hs
    clear tr
    refine aw_take 0 rfl (by kernel_rfl) (by kernel_rfl) (by kernel_rfl) rfl (fun w hs => run_move (v := .pointer (some _)) rfl) hK ?_
    refine aw_take 1 rfl (by kernel_rfl) (by kernel_rfl) (by kernel_rfl) rfl (fun w hs => run_nilCheckP rfl) hK ?_
    refine aw_take 2 rfl (by kernel_rfl) (by kernel_rfl) (by kernel_rfl) rfl (fun w hs => run_fieldAddr (o' := 0) Tryz.underlying74 rfl sz25 rfl rfl rfl) hK ?_
    refine aw_take 3 rfl (by kernel_rfl) (by kernel_rfl) (by kernel_rfl) rfl (fun w hs => run_load Tryz.underlying25 rfl rfl (hs.cellAt 4 rfl rfl)) hK ?_
    refine aw_take 4 rfl (by kernel_rfl) (by kernel_rfl) (by kernel_rfl) rfl (fun w hs => run_move (v := .pointer (some _)) rfl) hK ?_
    refine aw_take 5 rfl (by kernel_rfl) (by kernel_rfl) (by kernel_rfl) rfl (fun w hs => run_nilCheckP rfl) hK ?_
    refine aw_take 6 rfl (by kernel_rfl) (by kernel_rfl) (by kernel_rfl) rfl (fun w hs => run_fieldAddr (o' := 5) Tryz.underlying74 rfl sz3 rfl rfl rfl) hK ?_
    refine aw_take 7 rfl (by kernel_rfl) (by kernel_rfl) (by kernel_rfl) rfl (fun w hs => run_load Tryz.underlying3 rfl rfl (hs.cellAt 4 rfl rfl)) hK ?_
    refine aw_ready [8] (by kernel_rfl) (by simp) ?_
    refine ⟨⟨_, rfl, ?_⟩, trivial⟩
    refine lw_call rfl en18 (cut_sl hM.toK hs (by omega) mtN (m := ((mb.length : Nat) : Int)) (inI (by omega) (by omega)) (Dk.cut_down hdn2 mtN _)) ?_
    clear hs
    rintro _ w ⟨rfl, hs⟩
    clear hK
    have hK := hs.drop 0
    refine lw_nil ⟨hK, ?_⟩
    refine aw_done (by kernel_rfl) ?_
    clear hK
    refine cw_seq ?_
    refine cw_seq (cw_region ?_)
    refine lw_val rfl (run_move (v := errV ad _) rfl) ?_
    refine lw_val rfl (run_neerrn (ad := ad) rfl) ?_
    refine lw_nil ?_
    refine cw_ift rfl (rfl) ?_
    refine cw_seq (cw_region ?_)
    refine lw_val rfl (run_move (v := errV ad _) rfl) ?_
    refine lw_val rfl (run_assign (v := errV ad _) rfl) ?_
    refine lw_nil ?_
    refine cw_ret ?_
    refine res1 (v := errV ad _) rfl rfl ?_
    exact ⟨_, rfl, 110, d2, V, q, c, mb.length, rfl, ⟨hsr, by omega, .inr (.inr ⟨rfl, hdn2, hne2, hcr2 (hs.openD).1⟩)⟩, Mem.closeL (hs.arr [5, 3, 0] 6 (by decide))⟩
end Go.Proofs.YtdkgdjnbpjjfmaaGreatDoor
namespace Go.Proofs.YtdkgdjnbpjjfmaaGreatDoor
set_option linter.all false
open Go.RowKit
attribute [local irreducible] errV
variable {g w : World} {L M : List HP} {ad : Nat → Addr} {p : Nat}

def mkM (id base : Nat) (fin : Int) (l : List Pr) : Mf := ⟨id, base, fin, 0, l, [(objNm id bData base, 0, 0), (objNm id bMarks base, 0, 0)]⟩
theorem crc_none : crcMore 0 [] = 0 := by decide +kernel
set_option maxRecDepth 100000 in
set_option maxHeartbeats 2000000 in
theorem make_sl (hs : Mem g w L) {id base : Nat} {fin : Int} {a : Option Addr} {n c : Nat} {l : List Pr} (hr : RdK g L 2 (.slice a n c) (l.map prL)) (hn : n = l.length) (hlen : 1 ≤ l.length ∧ l.length ≤ 1000000) (hid : id ≤ 2147483647) (hb : base ≤ 1099511627776) (hF : mfF (mkM id base fin l) = (0, none)) :
    Calls Tryz.prog 78 #[.int .i64 id, .int .i64 base, .int .i64 fin, .int .i64 0, .slice a n c, .slice none 0 0, .slice none 0 0] w (Ret fun v w' => ∃ s1 s2 : SA, v = .tuple #[.agg (mfL (mkM id base fin l) s1 s2).toArray, fltV (0, none)] ∧ Mem g w' (mfP (mkM id base fin l) s1 s2 ++ L)) := by
  subst hn
  refine calls_cw Tryz.func78 rfl rfl ?_
  skip
  refine cw_seq (cw_region ?_)
  refine lw_alloc hs rfl ze39 ?_
  clear hs
  intro b14 w hs
  try simp only [List.set_cons_succ, List.set_cons_zero] at hs
  refine lw_alloc hs rfl ze57 ?_
  clear hs
  intro b15 w hs
  try simp only [List.set_cons_succ, List.set_cons_zero] at hs
  refine lw_nil (cw_seq (cw_region ?_))
  refine lw_val rfl (run_move (v := .int .i64 _) rfl) ?_
  refine lw_val rfl (run_move (v := .int .i64 _) rfl) ?_
  refine lw_val rfl (run_move (v := .int .i64 _) rfl) ?_
  refine lw_val rfl (run_move (v := .int .i64 _) rfl) ?_
  refine lw_val rfl (run_move (v := .slice _ _ _) rfl) ?_
  refine lw_call rfl en117 (copyPr_sl hs hr.cons.cons rfl hlen) ?_
  clear hs
  rintro _ w ⟨s1, rfl, hs⟩
  refine lw_val rfl (run_build (cs := [.int .i64 id, .int .i64 base, .int .i64 fin, .int .i64 0, .slice s1.1 l.length s1.2, .slice none 0 0]) Tryz.underlying39 ze39 pl39 rfl) ?_
  refine lw_alloc hs rfl ze39 ?_
  clear hs
  intro b16 w hs
  try simp only [List.set_cons_succ, List.set_cons_zero] at hs
  refine lw_storeRow hs 0 rfl rfl rfl sz39 rfl rfl ?_
  clear hs
  intro w hs
  try simp only [List.set_cons_succ, List.set_cons_zero] at hs
  refine lw_nil (cw_seq (cw_region ?_))
  refine lw_val rfl (run_move (v := .int .i64 _) rfl) ?_
  refine lw_val rfl (run_move (v := .int .i64 _) rfl) ?_
  refine lw_call rfl en118 (objNm_sl hs id base bData hid hb (by decide) (by decide)) ?_
  clear hs
  rintro _ w ⟨rfl, hs⟩
  refine lw_val rfl (run_move (v := .slice _ _ _) rfl) ?_
  refine lw_val rfl (run_lenS Tryz.underlying23 rfl) ?_
  refine lw_val rfl (run_move (v := .slice _ _ _) rfl) ?_
  refine lw_call rfl en119 (hs.callsE (refSum_any (w := w) (b := .slice none 0 0) (l := []) (seqV.nil w) (by simp))) ?_
  clear hs
  rintro _ w ⟨rfl, hs⟩
  rw [crc_none]
  refine lw_val rfl (run_buildF ([.string (objNm id bData base), .int .i64 0, .int .u32 0]) Tryz.underlying113 ze113 pl113 rfl (by simp [Value.cells]) rfl rfl) ?_
  refine lw_val rfl (run_move (v := .int .i64 _) rfl) ?_
  refine lw_val rfl (run_move (v := .int .i64 _) rfl) ?_
  refine lw_call rfl en118 (objNm_sl hs id base bMarks hid hb (by decide) (by decide)) ?_
  clear hs
  rintro _ w ⟨rfl, hs⟩
  refine lw_val rfl (run_move (v := .slice _ _ _) rfl) ?_
  refine lw_val rfl (run_lenS Tryz.underlying23 rfl) ?_
  refine lw_val rfl (run_move (v := .slice _ _ _) rfl) ?_
  refine lw_call rfl en119 (hs.callsE (refSum_any (w := w) (b := .slice none 0 0) (l := []) (seqV.nil w) (by simp))) ?_
  clear hs
  rintro _ w ⟨rfl, hs⟩
  rw [crc_none]
  refine lw_val rfl (run_buildF ([.string (objNm id bMarks base), .int .i64 0, .int .u32 0]) Tryz.underlying113 ze113 pl113 rfl (by simp [Value.cells]) rfl rfl) ?_
  refine lw_build2 hs rfl (r1 := obL (objNm id bData base, 0, 0)) (r2 := obL (objNm id bMarks base, 0, 0)) Tryz.underlying37 zsOb rfl rfl (fill_ob _ _ 0 0 0 0) (by decide) (by decide) ?_
  clear hs
  intro b41 w hs
  replace hs := hs.asRows 0 rfl (m := 2) (k := 3) (rows := [obL (objNm id bData base, 0, 0), obL (objNm id bMarks base, 0, 0)]) rfl rfl (obL_rows [(objNm id bData base, 0, 0), (objNm id bMarks base, 0, 0)])
  simp only [List.set_cons_zero] at hs
  refine lw_val rfl (run_fieldAddr (o' := 5) Tryz.underlying39 rfl sz37 rfl rfl rfl) ?_
  refine lw_store (v := .slice _ _ _) hs 1 rfl sz37 rfl rfl rfl rfl ?_
  clear hs
  intro w hs
  try simp only [List.set_cons_succ, List.set_cons_zero] at hs
  refine lw_nil (cw_seq (cw_region ?_))
  refine lw_val rfl (run_loadRow hs 1 rfl Tryz.underlying39 sz39 rfl) ?_
  refine lw_call rfl en120 (rManifest_sl (m := mkM id base fin l) (e := s1) (o := (some ⟨b41, 0, none⟩, 2)) hs (MfR.own 2 0 rfl rfl) (by simp [mkM])) ?_
  clear hs
  rintro _ w ⟨rfl, hs⟩
  rw [hF]
  refine lw_alloc hs rfl ze57 ?_
  clear hs
  intro b17 w hs
  try simp only [List.set_cons_succ, List.set_cons_zero] at hs
  refine lw_storeRow hs 0 rfl rfl rfl sz57 rfl rfl ?_
  clear hs
  intro w hs
  try simp only [List.set_cons_succ, List.set_cons_zero] at hs
  refine lw_nil ?_
  refine cw_seq ?_
  refine cw_seq (cw_region ?_)
  refine lw_val rfl (run_fieldAddr (o' := 0) Tryz.underlying57 rfl sz3 rfl rfl rfl) ?_
  refine lw_val rfl (run_load Tryz.underlying3 rfl rfl (hs.cellAt 0 rfl rfl)) ?_
  refine lw_val rfl (run_nei rfl rfl) ?_
  refine lw_nil ?_
  refine cw_iff rfl (rfl) ?_
  refine cw_skip ?_
  refine cw_seq ?_
  refine cw_drawS mixes ((hs.drop 5).drop 4) ?_
  intro w tr hK
  replace hs := tr _ hs
  clear tr
  refine aw_take 0 rfl (by kernel_rfl) (by kernel_rfl) (by kernel_rfl) rfl (fun w hs => run_loadRow hs 2 rfl Tryz.underlying39 sz39 rfl) hK ?_
  refine aw_ready [1] (by kernel_rfl) (by simp) ?_
  refine ⟨⟨_, rfl, ?_⟩, trivial⟩
  refine lw_call rfl en55 (none_sl hs) ?_
  clear hs
  rintro _ w ⟨rfl, hs⟩
  clear hK
  have hK := (hs.drop 5).drop 4
  refine lw_nil ⟨hK, ?_⟩
  refine aw_ready [2] (by kernel_rfl) (by simp) ?_
  refine ⟨⟨_, rfl, ?_⟩, trivial⟩
  refine lw_storeRow hs 5 rfl rfl rfl sz39 rfl rfl ?_
  clear hs
  intro w hs
  try simp only [List.set_cons_succ, List.set_cons_zero] at hs
  clear hK
  have hK := (hs.drop 5).drop 4
  refine lw_nil ⟨hK, ?_⟩
  refine aw_ready [3] (by kernel_rfl) (by simp) ?_
  refine ⟨⟨_, rfl, ?_⟩, trivial⟩
  refine lw_storeRow hs 4 rfl rfl rfl sz57 rfl rfl ?_
  clear hs
  intro w hs
  try simp only [List.set_cons_succ, List.set_cons_zero] at hs
  clear hK
  have hK := (hs.drop 5).drop 4
  refine lw_nil ⟨hK, ?_⟩
  refine aw_done (by kernel_rfl) ?_
  clear hK
  refine cw_ret ?_
  refine resG [(.cell 14 39, .agg _), (.cell 15 57, .agg _)] rfl ⟨⟨_, rfl, res_row hs 5 rfl Tryz.underlying39 sz39⟩, ⟨_, rfl, res_row hs 4 rfl Tryz.underlying57 sz57⟩, trivial⟩ ?_
  exact ⟨_, rfl, s1, (some ⟨b41, 0, none⟩, 2), rfl, hs.arr [3, 1] 6 (by decide)⟩
end Go.Proofs.YtdkgdjnbpjjfmaaGreatDoor
namespace Go.Proofs.YtdkgdjnbpjjfmaaGreatDoor
set_option linter.all false
open Go.RowKit
attribute [local irreducible] errV eV
variable {g w : World} {L M : List HP} {ad : Nat → Addr}

theorem one17 : ∀ id < 12, mfF (oneM id (10 * id)) = (0, none) := by decide +kernel
theorem one17_len : ∀ id < 12, (mfB (oneM id (10 * id))).length ≤ 150 := by
  intro id h
  have : (mfB (oneM id (10 * id))).length = (mfBody (oneM id (10 * id))).length + 4 := sealL_len _
  rw [this]
  revert id
  decide +kernel
theorem one17_sl (hs : Mem g w L) (id : Nat) (hid : id < 12) : Calls Tryz.prog 37 #[.int .i64 id] w (Ret fun v w' => ∃ s1 s2 : SA, v = .agg (mfL (oneM id (10 * id)) s1 s2).toArray ∧ Mem g w' (mfP (oneM id (10 * id)) s1 s2 ++ L)) := by
  refine calls_cw Tryz.func37 rfl rfl ?_
  skip
  refine cw_seq (cw_region ?_)
  refine lw_alloc hs rfl ze39 ?_
  clear hs
  intro b2 w hs
  try simp only [List.set_cons_succ, List.set_cons_zero] at hs
  refine lw_nil (cw_seq (cw_region ?_))
  refine lw_val rfl (run_move (v := .int .i64 _) rfl) ?_
  refine lw_val rfl (run_move (v := .int .i64 _) rfl) ?_
  refine lw_val rfl (run_mul64 rfl rfl (c := ((10 * id : Nat) : Int)) (by omega) (inI (by omega) (by omega))) ?_
  refine lw_val rfl (run_move (v := .int .i64 _) rfl) ?_
  refine lw_val rfl (run_mul64 rfl rfl (c := ((10 * id : Nat) : Int)) (by omega) (inI (by omega) (by omega))) ?_
  refine lw_val rfl (run_add64 rfl rfl (c := ((10 * id : Nat) : Int) + 5) (by omega) (inI (by omega) (by omega))) ?_
  refine lw_val rfl (run_move (v := .int .i64 _) rfl) ?_
  refine lw_val rfl (run_mul64 rfl rfl (c := ((10 * id : Nat) : Int)) (by omega) (inI (by omega) (by omega))) ?_
  refine lw_val rfl (run_buildF ([.int .i64 1, .int .i64 ((10 * id : Nat) : Int)]) Tryz.underlying141 ze141 pl141 rfl (by simp [Value.cells]) rfl rfl) ?_
  refine lw_buildRow hs rfl (row := prL (1, ((10 * id : Nat) : Int))) Tryz.underlying36 zsPr rfl (fill_pr _ _) (by decide) (by decide) ?_
  clear hs
  intro b15 w hs
  refine lw_call rfl en78 (make_sl hs (id := id) (base := 10 * id) (fin := ((10 * id : Nat) : Int) + 5) (l := [(1, ((10 * id : Nat) : Int))]) (RdK.one 0 rfl rfl) rfl (by simp) (by omega) (by omega) (one17 id hid)) ?_
  clear hs
  rintro _ w ⟨s1, s2, rfl, hs⟩
  refine lw_val rfl (run_move (v := .tuple _) rfl) ?_
  refine lw_val rfl (run_extract (v := .agg _) rfl rfl) ?_
  refine lw_val rfl (run_extract (v := .agg _) rfl rfl) ?_
  refine lw_alloc hs rfl ze39 ?_
  clear hs
  intro b3 w hs
  try simp only [List.set_cons_succ, List.set_cons_zero] at hs
  refine lw_alloc hs rfl ze57 ?_
  clear hs
  intro b4 w hs
  try simp only [List.set_cons_succ, List.set_cons_zero] at hs
  refine lw_storeRow hs 1 rfl rfl rfl sz39 rfl rfl ?_
  clear hs
  intro w hs
  try simp only [List.set_cons_succ, List.set_cons_zero] at hs
  refine lw_storeRow hs 0 rfl rfl rfl sz57 rfl rfl ?_
  clear hs
  intro w hs
  try simp only [List.set_cons_succ, List.set_cons_zero] at hs
  refine lw_nil (cw_seq (cw_region ?_))
  refine lw_val rfl (run_loadRow hs 1 rfl Tryz.underlying39 sz39 rfl) ?_
  refine lw_storeRow hs 5 rfl rfl rfl sz39 rfl rfl ?_
  clear hs
  intro w hs
  try simp only [List.set_cons_succ, List.set_cons_zero] at hs
  refine lw_nil ?_
  refine cw_ret ?_
  refine resG [(.cell 2 39, .agg _)] rfl ⟨⟨_, rfl, res_row hs 5 rfl Tryz.underlying39 sz39⟩, trivial⟩ ?_
  exact ⟨_, rfl, s1, s2, rfl, hs.arr [2, 3] 6 (by decide)⟩
def kdz (z : Int) : Nat := (IntKind.i64.wrap (z.tdiv 4) % ((4 : Nat) : Int)).toNat + 1
def idz (z : Int) : Nat := (z % ((4 : Nat) : Int)).toNat + 4 * (IntKind.i64.wrap (z.tdiv 16) % ((3 : Nat) : Int)).toNat
def enz (z : Int) : En := ((kdz z : Nat), oneM (idz z) (10 * idz z))
theorem idz_lt (z : Int) : idz z < 12 := by unfold idz; omega
theorem kdz_lt (z : Int) : 1 ≤ kdz z ∧ kdz z ≤ 4 := by unfold kdz; omega
theorem enz_ok (z : Int) : EnOk (enz z) := by
  have h := kdz_lt z
  refine ⟨one17 _ (idz_lt z), by simp only [enz]; omega, by simp only [enz]; omega, fun o ho => ?_⟩
  simp only [enz, oneM, mkM, List.mem_cons, List.not_mem_nil, or_false] at ho
  rcases ho with rfl | rfl <;> exact (by decide : (0 : Nat) < 4294967296)
theorem enz_len (z : Int) (q : Nat) : (frame q (enz z)).length ≤ 167 := by
  have := one17_len _ (idz_lt z)
  rw [frame_len]; simp only [enz]; omega
theorem enz_obs (z : Int) : (enz z).2.obs.length ≤ 1000000 := by simp [enz, oneM, mkM]
theorem entry17_sl (hs : Mem g w L) (z : Int) : Calls Tryz.prog 12 #[.int .i64 z] w (Ret fun v w' => ∃ s1 s2 : SA, v = .agg (.int .i64 (enz z).1 :: mfL (enz z).2 s1 s2).toArray ∧ Mem g w' (mfP (enz z).2 s1 s2 ++ L)) := by
  have h0 := kdz_lt z
  refine calls_cw Tryz.func12 rfl rfl ?_
  skip
  refine cw_seq (cw_region ?_)
  refine lw_alloc hs rfl ze41 ?_
  clear hs
  intro b2 w hs
  try simp only [List.set_cons_succ, List.set_cons_zero] at hs
  refine lw_nil (cw_seq (cw_region ?_))
  refine lw_val rfl (run_move (v := .int .i64 _) rfl) ?_
  refine lw_val rfl (run_quo rfl rfl (by decide)) ?_
  refine lw_call rfl en17 (numberL_sl hs (IntKind.i64.wrap (z.tdiv 4)) 4 (by decide)) ?_
  clear hs
  rintro _ w ⟨rfl, hk4, hs⟩
  refine lw_val rfl (run_add64 rfl rfl (c := ((kdz z : Nat) : Int)) (by unfold kdz; omega) (inI (by omega) (by omega))) ?_
  refine lw_val rfl (run_move (v := .int .i64 _) rfl) ?_
  refine lw_call rfl en17 (numberL_sl hs z 4 (by decide)) ?_
  clear hs
  rintro _ w ⟨rfl, hi4, hs⟩
  refine lw_val rfl (run_move (v := .int .i64 _) rfl) ?_
  refine lw_val rfl (run_quo rfl rfl (by decide)) ?_
  refine lw_call rfl en17 (numberL_sl hs (IntKind.i64.wrap (z.tdiv 16)) 3 (by decide)) ?_
  clear hs
  rintro _ w ⟨rfl, hi3, hs⟩
  refine lw_val rfl (run_mul64 rfl rfl (c := ((4 * (IntKind.i64.wrap (z.tdiv 16) % ((3 : Nat) : Int)).toNat : Nat) : Int)) (by omega) (inI (by omega) (by omega))) ?_
  refine lw_val rfl (run_add64 rfl rfl (c := ((idz z : Nat) : Int)) (by unfold idz; omega) (inI (by have := idz_lt z; omega) (by have := idz_lt z; omega))) ?_
  refine lw_call rfl en37 (one17_sl hs (idz z) (idz_lt z)) ?_
  clear hs
  rintro _ w ⟨s1, s2, rfl, hs⟩
  refine lw_val rfl (run_buildKM (k := (kdz z : Nat)) (m := oneM (idz z) (10 * idz z)) (e := s1) (o := s2) Tryz.underlying41 ze41 pl41 rfl rfl) ?_
  refine lw_storeRow hs 2 rfl rfl rfl sz41 rfl rfl ?_
  clear hs
  intro w hs
  try simp only [List.set_cons_succ, List.set_cons_zero] at hs
  refine lw_nil ?_
  refine cw_ret ?_
  refine resG [(.cell 2 41, .agg _)] rfl ⟨⟨_, rfl, res_row hs 2 rfl Tryz.underlying41 sz41⟩, trivial⟩ ?_
  exact ⟨_, rfl, s1, s2, rfl, hs.arr [0, 1] 3 (by decide)⟩
end Go.Proofs.YtdkgdjnbpjjfmaaGreatDoor
namespace Go.Proofs.YtdkgdjnbpjjfmaaGreatDoor
set_option linter.all false
open Go.RowKit
attribute [local irreducible] errV eV
variable {g w : World} {L M : List HP} {ad : Nat → Addr} {p d pv ev : Nat} {dk : Dk} {f : ByteArray → Option (List UInt8)} {V V0 U : Vw} {q q0 r c n : Nat} {es : List En}

theorem runs_props : ∀ {es : List En} {V U : Vw}, runs V es = some U → V.ok → V.sums → (∀ e ∈ es, EnOk e) → U.ok ∧ U.sums ∧ U.length ≤ V.length + es.length
  | [], V, U, h, ho, hu, _ => by cases h; exact ⟨ho, hu, Nat.le_refl _⟩
  | e :: es, V, U, h, ho, hu, hE => by
    simp only [runs] at h
    split at h
    · have h1 := runs_props h (Vw.apply_ok ho e.1 e.2) (Vw.apply_sums hu (hE e (List.mem_cons_self ..)).2.2.2) fun x hx => hE x (List.mem_cons_of_mem _ hx)
      have h2 := V.apply_len e.1 e.2
      exact ⟨h1.1, h1.2.1, by simp only [List.length_cons]; omega⟩
    · cases h
/-- What the disk has of a log. -/
structure LgSt (f : ByteArray → Option (List UInt8)) (V0 : Vw) (q0 : Nat) (es : List En) (V : Vw) : Prop where
  snap : Snp f V0 q0
  file : f mtN = some (frames q0 es)
  run : runs V0 es = some V
  ok0 : V0.ok
  sum0 : V0.sums
  len0 : V0.length ≤ q0
  ens : ∀ e ∈ es, EnOk e
theorem LgSt.props (h : LgSt f V0 q0 es V) : V.ok ∧ V.sums ∧ V.length ≤ q0 + es.length := by
  have h1 := runs_props h.run h.ok0 h.sum0 h.ens
  have := h.len0
  exact ⟨h1.1, h1.2.1, by omega⟩
theorem Snp.upd (h : Snp f V q) (v : List UInt8) : Snp (updF f mtN v) V q := by
  unfold Snp at *
  rw [updF_other _ _ (Ne.symm mt_sn)]
  exact h
theorem LgSt.app (h : LgSt f V0 q0 es V) {e : En} (hE : EnOk e) (hap : (V.apply e.1 e.2).1 = (0, none)) : LgSt (updF f mtN (frames q0 es ++ frame (q0 + es.length + 1) e)) V0 q0 (es ++ [e]) (V.apply e.1 e.2).2 :=
  ⟨h.snap.upd _, by rw [updF_same, frames_snoc], runs_snoc h.run hap, h.ok0, h.sum0, h.len0, fun x hx => by
    rcases List.mem_append.1 hx with hx | hx
    · exact h.ens x hx
    · simp only [List.mem_cons, List.not_mem_nil, or_false] at hx; subst hx; exact hE⟩
theorem LgSt.shot (h : LgSt f V0 q0 es V) : LgSt (updF (updF f snN (sealL (snapB (q0 + es.length) V))) mtN []) V (q0 + es.length) [] V := by
  have hp := h.props
  exact ⟨.inr (by rw [updF_other _ _ (Ne.symm mt_sn), updF_same]), by rw [updF_same]; rfl, rfl, hp.1, hp.2.1, hp.2.2, fun e he => (by cases he)⟩
theorem LgSt.ent (h : LgSt f V0 q0 es V) (hq : q0 + es.length ≤ 32) : Ent V0 q0 (frames q0 es) V (q0 + es.length) es.length (frames q0 es).length := by
  have hl := frames_len es q0 h.ens
  have h1 := Ent.frames (tail := []) (W := V) (r := q0 + es.length) (c := 0) (n := 0) h.run h.ens (by rw [List.append_nil]; omega) (by omega) (.none (.inl rfl))
  rw [List.append_nil, Nat.zero_add, Nat.zero_add] at h1
  exact h1
/-- A log that has so many entries, so many of them in its file. -/
def LgW (f : ByteArray → Option (List UInt8)) (q c n : Nat) (V : Vw) : Prop := ∃ V0 q0 es, LgSt f V0 q0 es V ∧ q = q0 + es.length ∧ c = es.length ∧ n = (frames q0 es).length
theorem LgW.props (h : LgW f q c n V) : V.ok ∧ V.sums ∧ V.length ≤ q ∧ c ≤ q ∧ n ≤ 6021 * c := by
  obtain ⟨V0, q0, es, h, rfl, rfl, rfl⟩ := h
  have h1 := h.props
  exact ⟨h1.1, h1.2.1, h1.2.2, by omega, frames_len es q0 h.ens⟩
theorem openU_sl (hM : ErrM ad g) (hs : Mem g w (DiskC d dk :: L)) (hI : LgI f dk) (ha : dk.armed = 0) (hcl : dk.calls < 800000) (hev : 1 ≤ ev ∧ ev ≤ 4096) (hW : LgW f q c n V) (hq : q ≤ 32) :
    Calls Tryz.prog 10 #[.pointer (some ⟨d, 0, none⟩), .int .i64 (ev : Nat)] w (Ret fun v w' => ∃ p dk2, v = .tuple #[.pointer (some ⟨p, 0, none⟩), .nilIface] ∧ dk2.armed = 0 ∧ dk2.room = dk.room ∧ dk2.calls ≤ dk.calls + 4 ∧ LgI f dk2 ∧ Mem g w' (LogC p d ev V q c n :: DiskC d dk2 :: L)) := by
  obtain ⟨V0, q0, es, h, rfl, rfl, rfl⟩ := hW
  have hl := frames_len es q0 h.ens
  have h0 := h.len0
  refine (openM_sl hM hs hI ha hcl hev h.snap h.ok0 h.sum0 (by omega) (.inl h.file) (by omega) (h.ent hq) (by omega)).mono ?_
  rintro e w' ⟨v, rfl, p, dk2, rfl, h1, h2, h3, h4, h5⟩
  rw [List.take_of_length_le (Nat.le_refl _), updF_self h.file] at h4
  exact ⟨_, rfl, p, dk2, rfl, h1, h2, h3, h4, h5⟩
/-- A log on a disk that has nothing. -/
theorem LgW.zero : LgW (updF (fun _ => none) mtN []) 0 0 0 [] := ⟨[], 0, [], ⟨.inl ⟨by rw [updF_other _ _ (Ne.symm mt_sn)], rfl, rfl⟩, by rw [updF_same]; rfl, rfl, Vw.ok_nil, (fun x hx => by cases hx), Nat.le_refl _, (fun e he => by cases he)⟩, rfl, rfl, rfl⟩
theorem open0_sl (hM : ErrM ad g) {rm : Nat} (hrm : rm ≤ 4194304) (hs : Mem g w (DiskC d (Dk.empty rm) :: L)) (hev : 1 ≤ ev ∧ ev ≤ 4096) :
    Calls Tryz.prog 10 #[.pointer (some ⟨d, 0, none⟩), .int .i64 (ev : Nat)] w (Ret fun v w' => ∃ p dk2, v = .tuple #[.pointer (some ⟨p, 0, none⟩), .nilIface] ∧ dk2.armed = 0 ∧ dk2.room = rm ∧ dk2.calls ≤ 4 ∧ LgI (updF (fun _ => none) mtN []) dk2 ∧ Mem g w' (LogC p d ev [] 0 0 0 :: DiskC d dk2 :: L)) := by
  refine (openM_sl hM hs (RawI.start hrm) rfl (by simp [Dk.empty]) hev (V0 := []) (q0 := 0) (mb := []) (V := []) (q := 0) (c := 0) (n := 0) (.inl ⟨rfl, rfl, rfl⟩) Vw.ok_nil (fun x hx => by cases hx) (by simp) (.inr ⟨rfl, rfl⟩) (by simp) (.none (.inl rfl)) (by decide)).mono ?_
  rintro e w' ⟨v, rfl, p, dk2, rfl, h1, h2, h3, h4, h5⟩
  exact ⟨_, rfl, p, dk2, rfl, h1, h2, by simpa [Dk.empty] using h3, h4, h5⟩
/-- An Append while the power is there. -/
def AppU (f : ByteArray → Option (List UInt8)) (dk : Dk) (ev : Nat) (V : Vw) (q c n : Nat) (k : Int) (x : Mf) (f' : ByteArray → Option (List UInt8)) (dk2 : Dk) (q' c' n' : Nat) : Prop :=
  LgI f' dk2 ∧ dk2.armed = 0 ∧ dk2.room = dk.room ∧ dk2.calls ≤ dk.calls + 9 ∧ LgW f' q' c' n' (V.apply k x).2 ∧
  ((V.apply k x).1.1 ≠ 0 ∧ q' = q ∧ c' = c ∧ n' = n ∧ f' = f ∧ dk2 = dk ∨ (V.apply k x).1 = (0, none) ∧ q' = q + 1 ∧ (c + 1 < ev ∧ c' = c + 1 ∧ n' = n + (frame (q + 1) (k, x)).length ∨ ev ≤ c + 1 ∧ c' = 0 ∧ n' = 0))
theorem appU_sl (hM : ErrM ad g) (hs : Mem g w (LogC p d ev V q c n :: DiskC d dk :: L)) (hI : LgI f dk) (ha : dk.armed = 0) (hW : LgW f q c n V) (hcl : dk.calls < 700000) (hr : 1000000 ≤ dk.room) (hq : q ≤ 31) {k : Int} {x : Mf} {e o : SA} (hm : MfR g L x e o) (hob : x.obs.length ≤ 1000000) (hsu : ∀ o ∈ x.obs, o.2.2 < 4294967296) :
    Calls Tryz.prog 13 #[.pointer (some ⟨p, 0, none⟩), .agg (.int .i64 k :: mfL x e o).toArray] w (Ret fun v w' => ∃ f' dk2 q' c' n' eb, v = flV ad (V.apply k x).1 eb ∧ AppU f dk ev V q c n k x f' dk2 q' c' n' ∧ Mem g w' (flC ad (V.apply k x).1 eb :: LogC p d ev (V.apply k x).2 q' c' n' :: DiskC d dk2 :: L)) := by
  rcases V.apply_two k x with hap | hap
  · obtain ⟨V0, q0, es, h, rfl, rfl, rfl⟩ := hW
    have hl := frames_len es q0 h.ens
    have hp := h.props
    have hen := Vw.apply_en hap
    have hok : EnOk (k, x) := ⟨hen.1, hen.2.1, hen.2.2, hsu⟩
    refine (appOk_sl hM hs hI h.file rfl hcl hr hp.2.1 (by omega) (by omega) (by omega) (by omega) hm hob hsu hap).mono ?_
    rintro r w' ⟨v, rfl, kr, dk2, V', q', c', n', rfl, ⟨h1, h2, h3⟩, h4⟩
    rcases h3 with ⟨rfl, h5, h6, rfl, rfl, h7⟩ | ⟨_, _, h5, _⟩ | ⟨_, _, h5, _⟩
    · rcases h7 with ⟨h8, rfl, rfl, h9⟩ | ⟨h8, rfl, rfl, h9⟩
      · refine ⟨_, rfl, _, dk2, _, _, _, 0, by rw [hap]; rfl, ⟨h9, h6 ha, h1, h2, ⟨V0, q0, _, h.app (e := (k, x)) hok hap, by simp; omega, by simp, by rw [frames_snoc]; simp⟩, .inr ⟨hap, rfl, .inl ⟨h8, rfl, rfl⟩⟩⟩, ?_⟩
        rw [hap]
        exact h4.addE (emp_okF _)
      · have h10 := (h.app (e := (k, x)) hok hap).shot
        rw [show q0 + (es ++ [(k, x)]).length = q0 + es.length + 1 by simp; omega] at h10
        refine ⟨_, rfl, _, dk2, _, _, _, 0, by rw [hap]; rfl, ⟨h9, h6 ha, h1, h2, ⟨_, _, _, h10, rfl, rfl, rfl⟩, .inr ⟨hap, rfl, .inr ⟨h8, rfl, rfl⟩⟩⟩, ?_⟩
        rw [hap]
        exact h4.addE (emp_okF _)
    · exact absurd ha h5
    · exact absurd ha h5
  · refine (appBad_sl hM hs hm hob hap).mono ?_
    rintro r w' ⟨v, rfl, eb, rfl, h4⟩
    have h5 := Vw.apply_ne hap
    refine ⟨_, rfl, f, dk, q, c, n, eb, rfl, ⟨hI, ha, rfl, by omega, by rw [h5]; exact hW, .inl ⟨hap, rfl, rfl, rfl, rfl, rfl⟩⟩, by rw [h5]; exact h4⟩
theorem snapU_sl (hM : ErrM ad g) (hs : Mem g w (LogC p d ev V q c n :: DiskC d dk :: L)) (hI : LgI f dk) (ha : dk.armed = 0) (hW : LgW f q c n V) (hcl : dk.calls < 700000) (hr : 1000000 ≤ dk.room) (hq : q ≤ 32) :
    Calls Tryz.prog 23 #[.pointer (some ⟨p, 0, none⟩)] w (Ret fun v w' => v = .nilIface ∧ ∃ f' dk2, LgI f' dk2 ∧ dk2.armed = 0 ∧ dk2.room = dk.room ∧ dk2.calls ≤ dk.calls + 7 ∧ LgW f' q 0 0 V ∧ f' mtN = some [] ∧ Mem g w' (LogC p d ev V q 0 0 :: DiskC d dk2 :: L)) := by
  obtain ⟨V0, q0, es, h, rfl, rfl, rfl⟩ := hW
  have hp := h.props
  refine (snapM_sl hM hs hI h.file (by omega) hr hp.2.1 (by omega) (by omega)).mono ?_
  rintro r w' ⟨v, rfl, kr, dk2, rfl, ⟨h1, h2, h3⟩, h4⟩
  rcases h3 with ⟨rfl, h5, h6, h7⟩ | ⟨_, _, h5, _⟩
  · exact ⟨_, rfl, errV_zero ad, _, dk2, h7, h6 ha, h1, h2, ⟨_, _, _, h.shot, rfl, rfl, rfl⟩, updF_same _ _ _, h4⟩
  · exact absurd ha h5
theorem lenU (hI : LgI f dk) (hW : LgW f q c n V) : dk.lenR mtN = (0, n) := by
  obtain ⟨V0, q0, es, h, rfl, rfl, rfl⟩ := hW
  rw [hI.lenR mem_mt, h.file]
  rfl
/-- What stands between two steps of a statement. -/
structure LgK (f : ByteArray → Option (List UInt8)) (dk : Dk) (q c n : Nat) (V : Vw) (K B : Nat) : Prop where
  w : LgW f q c n V
  I : LgI f dk
  a : dk.armed = 0
  r : dk.room = 1048576
  q : q ≤ K
  cl : dk.calls ≤ B
theorem LgK.mono {K B K2 B2 : Nat} (h : LgK f dk q c n V K B) (h1 : K ≤ K2) (h2 : B ≤ B2) : LgK f dk q c n V K2 B2 := ⟨h.w, h.I, h.a, h.r, Nat.le_trans h.q h1, Nat.le_trans h.cl h2⟩
theorem LgK.app {K B : Nat} (h : LgK f dk q c n V K B) {k : Int} {x : Mf} {f' : ByteArray → Option (List UInt8)} {dk2 : Dk} {q' c' n' : Nat} (hU : AppU f dk ev V q c n k x f' dk2 q' c' n') : LgK f' dk2 q' c' n' (V.apply k x).2 (K + 1) (B + 9) := by
  obtain ⟨h1, h2, h3, h4, h5, h6⟩ := hU
  have hq := h.q
  have hc := h.cl
  refine ⟨h5, h1, h2, h3.trans h.r, ?_, by omega⟩
  rcases h6 with ⟨_, h7, _⟩ | ⟨_, h7, _⟩
  · omega
  · omega
theorem LgK.next {K B : Nat} (h : LgK f dk q c n V K B) {dk2 : Dk} (h1 : dk2.armed = 0) (h2 : dk2.room = dk.room) (h3 : dk2.calls ≤ dk.calls + 4) (h4 : LgI f dk2) : LgK f dk2 q c n V K (B + 4) := ⟨h.w, h4, h1, h2.trans h.r, h.q, by have := h.cl; omega⟩
theorem LgK.shot {K B : Nat} (h : LgK f dk q c n V K B) {f' : ByteArray → Option (List UInt8)} {dk2 : Dk} (h0 : LgI f' dk2) (h1 : dk2.armed = 0) (h2 : dk2.room = dk.room) (h3 : dk2.calls ≤ dk.calls + 7) (h4 : LgW f' q 0 0 V) : LgK f' dk2 q 0 0 V K (B + 7) := ⟨h4, h0, h1, h2.trans h.r, h.q, by have := h.cl; omega⟩
theorem LgK.zero {dk : Dk} (h1 : dk.armed = 0) (h2 : dk.room = 1048576) (h3 : dk.calls ≤ 4) (h4 : LgI (updF (fun _ => none) mtN []) dk) : LgK (updF (fun _ => none) mtN []) dk 0 0 0 [] 0 4 := ⟨LgW.zero, h4, h1, h2, Nat.le_refl _, h3⟩
set_option maxRecDepth 10000 in
theorem first17_sl (hM : ErrM ad g) (hs : Mem g w L) : Calls Tryz.prog 8 #[] w (Ret fun v w' => v = .bool true ∧ Mem g w' L) := by
  refine calls_cw Tryz.func8 rfl rfl ?_
  skip
  refine cw_seq (cw_region ?_)
  refine lw_val rfl (run_assign (v := .bool _) rfl) ?_
  refine lw_nil (cw_seq (cw_region ?_))
  refine lw_call rfl en9 (newd_sl hs (r := 1000) (by decide) (by decide)) ?_
  clear hs
  rintro _ w ⟨d, rfl, hs⟩
  refine lw_val rfl (run_move (v := .tuple _) rfl) ?_
  refine lw_val rfl (run_extract (v := .pointer (some _)) rfl rfl) ?_
  refine lw_val rfl (run_extract (v := .nilIface) rfl rfl) ?_
  refine lw_val rfl (run_assign (v := .pointer (some _)) rfl) ?_
  refine lw_val rfl (run_assign (v := .nilIface) rfl) ?_
  refine lw_nil ?_
  refine cw_seq ?_
  refine cw_seq (cw_region ?_)
  refine lw_val rfl (run_move (v := .pointer (some _)) rfl) ?_
  refine lw_val rfl (run_eqpn Tryz.underlying25 rfl rfl) ?_
  refine lw_val rfl (run_move (v := .bool _) rfl) ?_
  refine lw_on rfl rfl (rfl) ?_
  refine lw_val rfl (run_move (v := .nilIface) rfl) ?_
  refine lw_on rfl rfl (rfl) ?_
  refine lw_val rfl (run_nenn rfl) ?_
  refine lw_val rfl (run_pickF (v := .bool _) rfl (rfl) rfl) ?_
  refine lw_nil ?_
  refine cw_iff rfl (rfl) ?_
  refine cw_skip ?_
  refine cw_seq (cw_region ?_)
  refine lw_val rfl (run_move (v := .pointer (some _)) rfl) ?_
  refine lw_call rfl en10 (open0_sl hM (rm := 1000) (ev := 5) (by decide) hs (by decide)) ?_
  clear hs
  rintro _ w ⟨p, dk, rfl, h1, h2, h3, h4, hs⟩
  refine lw_val rfl (run_move (v := .tuple _) rfl) ?_
  refine lw_val rfl (run_extract (v := .pointer (some _)) rfl rfl) ?_
  refine lw_val rfl (run_extract (v := .nilIface) rfl rfl) ?_
  refine lw_val rfl (run_assign (v := .pointer (some _)) rfl) ?_
  refine lw_val rfl (run_assign (v := .nilIface) rfl) ?_
  refine lw_nil (cw_seq (cw_region ?_))
  refine lw_val rfl (run_move (v := .pointer (some _)) rfl) ?_
  refine lw_val rfl (run_nepn Tryz.underlying30 rfl rfl) ?_
  refine lw_val rfl (run_move (v := .bool _) rfl) ?_
  refine lw_on rfl rfl (rfl) ?_
  refine lw_val rfl (run_move (v := .nilIface) rfl) ?_
  refine lw_on rfl rfl (rfl) ?_
  refine lw_val rfl (run_eqnn rfl) ?_
  refine lw_val rfl (run_pickT (v := .bool _) rfl (rfl) rfl) ?_
  refine lw_val rfl (run_move (v := .bool _) rfl) ?_
  refine lw_on rfl rfl (rfl) ?_
  refine lw_val rfl (run_move (v := .pointer (some _)) rfl) ?_
  refine lw_on rfl rfl (rfl) ?_
  refine lw_call rfl en20 (seq_sl hs) ?_
  clear hs
  rintro _ w ⟨rfl, hs⟩
  refine lw_on rfl rfl (rfl) ?_
  refine lw_val rfl (run_eqi rfl rfl) ?_
  refine lw_val rfl (run_pickT (v := .bool _) rfl (rfl) rfl) ?_
  refine lw_val rfl (run_assign (v := .bool _) rfl) ?_
  refine lw_nil ?_
  refine cw_ret ?_
  refine res1 (v := .bool _) rfl rfl ?_
  exact ⟨_, rfl, rfl, hs.tail.tail⟩
end Go.Proofs.YtdkgdjnbpjjfmaaGreatDoor
namespace Go.Proofs.YtdkgdjnbpjjfmaaGreatDoor
set_option linter.all false
open Go.RowKit
attribute [local irreducible] errV
variable {g w : World} {L M : List HP} {ad : Nat → Addr}

theorem sentinel_sl (hA : ErrA ad g) (hs : Mem g w L) {c : Nat} (hc : c ∈ allCodes) : Calls Tryz.prog 57 #[errV ad c] w (Ret fun v w' => v = .int .i64 c ∧ Mem g w' L) := by
  have h := sentinel_any (hA.atW hs) hs.size hc
  rw [← errV_pos ad (hA.pos c hc)] at h
  exact hs.calls h
def faultV (c : Int) (p : Bool) (q : Int) : Value := .agg #[.int .i64 c, .bool p, .int .i64 q]
theorem placed_sl (hs : Mem g w L) {c : Int} (hc : c ≠ 0) (q : Int) : Calls Tryz.prog 58 #[.int .i64 c, .int .i64 q] w (Ret fun v w' => v = faultV c true q ∧ Mem g w' L) := by
  refine calls_cw Tryz.func58 rfl rfl ?_
  skip
  refine cw_seq (cw_region ?_)
  refine lw_alloc hs rfl ze57 ?_
  clear hs
  intro b4 w hs
  try simp only [List.set_cons_succ, List.set_cons_zero] at hs
  refine lw_nil ?_
  refine cw_seq ?_
  refine cw_seq (cw_region ?_)
  refine lw_val rfl (run_move (v := .int .i64 _) rfl) ?_
  refine lw_val rfl (run_eqi rfl rfl) ?_
  refine lw_nil ?_
  refine cw_iff rfl (decide_eq_false hc) ?_
  refine cw_skip ?_
  refine cw_seq (cw_region ?_)
  refine lw_val rfl (run_move (v := .int .i64 _) rfl) ?_
  refine lw_val rfl (run_move (v := .int .i64 _) rfl) ?_
  refine lw_val rfl (run_buildF ([.int .i64 c, .bool true, .int .i64 q]) Tryz.underlying57 ze57 pl57 rfl (by simp [Value.cells]) rfl rfl) ?_
  refine lw_storeRow hs 0 rfl rfl rfl sz57 rfl rfl ?_
  clear hs
  intro w hs
  try simp only [List.set_cons_succ, List.set_cons_zero] at hs
  refine lw_nil ?_
  refine cw_ret ?_
  refine resG [(.cell 4 57, .agg _)] rfl ⟨⟨_, rfl, res_row hs 0 rfl Tryz.underlying57 sz57⟩, trivial⟩ ?_
  exact ⟨_, rfl, rfl, hs.tail⟩
theorem fault0_sl (hA : ErrA ad g) (hs : Mem g w L) {c : Nat} (hc : c = 0 ∨ c ∈ allCodes) : Calls Tryz.prog 25 #[errV ad c] w (Ret fun v w' => v = faultV c false 0 ∧ Mem g w' L) := by
  rcases hc with rfl | hc
  · rw [errV_zero]; exact hs.calls (fault_nil w)
  · have h := fault_err (hA.atW hs) hs.size hc
    rw [← errV_pos ad (hA.pos c hc)] at h
    exact hs.calls h
theorem run_assertAt {ρ : Env} {dst : Option Tmp} {ty : TypeId} {pos : String} {aft : Array Edge} {x : Operand} {b : Nat} (hx : ev ρ x = .iface 104 (.pointer (some ⟨b, 0, none⟩))) : (execOp (ev ρ) ⟨dst, .typeAssert x 27 104 true, ty, pos, aft, none⟩).run Tryz.prog w = .ok (.value (.tuple #[.pointer (some ⟨b, 0, none⟩), .bool true])) w := by
  have h : ∀ (v : Value) (w : World), (Instr.typeAssert (.iface 104 v) 27 104 true).run Tryz.prog w = .ok (.tuple #[v, .bool true]) w := fun _ _ => by kernel_rfl
  simp only [execOp, hx, Sem.run_bind, h, Result.andThen_ok, Sem.run_pure]
theorem faultAt_sl (hA : ErrA ad g) {c : Nat} {z : Int} {b : Nat} (hs : Mem g w (cells b [.int .i64 z, errV ad c] 109 :: L)) (hc : c ∈ allCodes) :
    Calls Tryz.prog 25 #[.iface 104 (.pointer (some ⟨b, 0, none⟩))] w (Ret fun v w' => v = faultV c true z ∧ Mem g w' (cells b [.int .i64 z, errV ad c] 109 :: L)) := by
  have hc0 := hA.pos c hc
  have he : eV ad 103 b = .iface 104 (.pointer (some ⟨b, 0, none⟩)) := eV_at (by decide) (by decide) b
  refine calls_cw Tryz.func25 rfl rfl ?_
  skip
  refine cw_seq (cw_region ?_)
  refine lw_alloc hs rfl ze57 ?_
  clear hs
  intro b2 w hs
  try simp only [List.set_cons_succ, List.set_cons_zero] at hs
  refine lw_nil ?_
  refine cw_seq ?_
  refine cw_seq (cw_region ?_)
  refine lw_val rfl (run_move (v := .iface _ (.pointer (some _))) rfl) ?_
  refine lw_val rfl (run_eqE (ad := ad) (c := 103) (eb := b) he.symm) ?_
  refine lw_nil ?_
  refine cw_iff rfl (rfl) ?_
  refine cw_skip ?_
  refine cw_seq (cw_region ?_)
  refine lw_val rfl (run_move (v := .iface _ (.pointer (some _))) rfl) ?_
  refine lw_val rfl (run_assertAt rfl) ?_
  refine lw_val rfl (run_move (v := .tuple _) rfl) ?_
  refine lw_val rfl (run_extract (v := .pointer (some _)) rfl rfl) ?_
  refine lw_val rfl (run_extract (v := .bool _) rfl rfl) ?_
  refine lw_val rfl (run_assign (v := .pointer (some _)) rfl) ?_
  refine lw_val rfl (run_assign (v := .bool _) rfl) ?_
  refine lw_nil ?_
  refine cw_seq ?_
  refine cw_seq (cw_region ?_)
  refine lw_val rfl (run_move (v := .bool _) rfl) ?_
  refine lw_val rfl (run_not rfl) ?_
  refine lw_nil ?_
  refine cw_iff rfl (not_f (rfl)) ?_
  refine cw_skip ?_
  refine cw_seq ?_
  refine cw_seq (cw_region ?_)
  refine lw_val rfl (run_move (v := .pointer (some _)) rfl) ?_
  refine lw_val rfl (run_eqpn Tryz.underlying104 rfl rfl) ?_
  refine lw_val rfl (run_move (v := .bool _) rfl) ?_
  refine lw_on rfl rfl rfl ?_
  refine lw_val rfl (run_move (v := .pointer (some _)) rfl) ?_
  refine lw_on rfl rfl rfl ?_
  refine lw_val rfl (run_nilCheckP rfl) ?_
  refine lw_on rfl rfl rfl ?_
  refine lw_val rfl (run_fieldAddr (o' := 1) Tryz.underlying109 rfl sz27 rfl rfl rfl) ?_
  refine lw_on rfl rfl rfl ?_
  refine lw_val rfl (run_load Tryz.underlying27 rfl rfl (hs.cellAt 1 rfl rfl)) ?_
  refine lw_on rfl rfl rfl ?_
  refine lw_val rfl (run_eqerrn (ad := ad) rfl) ?_
  refine lw_val rfl (run_pickF (v := .bool _) rfl rfl rfl) ?_
  refine lw_nil ?_
  refine cw_iff rfl (decide_eq_false hc0) ?_
  refine cw_skip ?_
  refine cw_seq ?_
  refine cw_drawS mixes hs.tail ?_
  intro w tr hK
  replace hs := tr _ hs
  clear tr
  refine aw_take 0 rfl (by kernel_rfl) (by kernel_rfl) (by kernel_rfl) rfl (fun w hs => run_move (v := .pointer (some _)) rfl) hK ?_
  refine aw_take 1 rfl (by kernel_rfl) (by kernel_rfl) (by kernel_rfl) rfl (fun w hs => run_nilCheckP rfl) hK ?_
  refine aw_take 2 rfl (by kernel_rfl) (by kernel_rfl) (by kernel_rfl) rfl (fun w hs => run_fieldAddr (o' := 1) Tryz.underlying109 rfl sz27 rfl rfl rfl) hK ?_
  refine aw_take 3 rfl (by kernel_rfl) (by kernel_rfl) (by kernel_rfl) rfl (fun w hs => run_load Tryz.underlying27 rfl rfl (hs.cellAt 0 rfl rfl)) hK ?_
  refine aw_take 5 rfl (by kernel_rfl) (by kernel_rfl) (by kernel_rfl) rfl (fun w hs => run_move (v := .pointer (some _)) rfl) hK ?_
  refine aw_take 6 rfl (by kernel_rfl) (by kernel_rfl) (by kernel_rfl) rfl (fun w hs => run_nilCheckP rfl) hK ?_
  refine aw_take 7 rfl (by kernel_rfl) (by kernel_rfl) (by kernel_rfl) rfl (fun w hs => run_fieldAddr (o' := 0) Tryz.underlying109 rfl sz3 rfl rfl rfl) hK ?_
  refine aw_take 8 rfl (by kernel_rfl) (by kernel_rfl) (by kernel_rfl) rfl (fun w hs => run_load Tryz.underlying3 rfl rfl (hs.cellAt 0 rfl rfl)) hK ?_
  refine aw_ready [4] (by kernel_rfl) (by simp) ?_
  refine ⟨⟨_, rfl, ?_⟩, trivial⟩
  refine lw_call rfl en57 (sentinel_sl hA hs hc) ?_
  clear hs
  rintro _ w ⟨rfl, hs⟩
  clear hK
  have hK := hs.tail
  refine lw_nil ⟨hK, ?_⟩
  refine aw_ready [9] (by kernel_rfl) (by simp) ?_
  refine ⟨⟨_, rfl, ?_⟩, trivial⟩
  refine lw_call rfl en58 (placed_sl hs (c := c) (by omega) z) ?_
  clear hs
  rintro _ w ⟨rfl, hs⟩
  clear hK
  have hK := hs.tail
  refine lw_nil ⟨hK, ?_⟩
  refine aw_ready [10] (by kernel_rfl) (by simp) ?_
  refine ⟨⟨_, rfl, ?_⟩, trivial⟩
  refine lw_storeRow hs 0 rfl rfl rfl sz57 rfl rfl ?_
  clear hs
  intro w hs
  try simp only [List.set_cons_succ, List.set_cons_zero] at hs
  clear hK
  have hK := hs.tail
  refine lw_nil ⟨hK, ?_⟩
  refine aw_done (by kernel_rfl) ?_
  clear hK
  refine cw_ret ?_
  refine resG [(.cell 2 57, .agg _)] rfl ⟨⟨_, rfl, res_row hs 0 rfl Tryz.underlying57 sz57⟩, trivial⟩ ?_
  exact ⟨_, rfl, rfl, hs.tail⟩
end Go.Proofs.YtdkgdjnbpjjfmaaGreatDoor
namespace Go.Proofs.YtdkgdjnbpjjfmaaGreatDoor
set_option linter.all false
open Go.RowKit
attribute [local irreducible] errV eV
variable {g w : World} {L M : List HP} {ad : Nat → Addr} {eb : Nat}

def ffV (F : Flt) : Value := faultV F.1 F.2.isSome (((F.2.getD 0 : Nat)) : Int)
def FltA (F : Flt) : Prop := F = (0, none) ∨ F.1 ∈ allCodes
theorem apply_fltA (V : Vw) (k : Int) (x : Mf) : FltA (V.apply k x).1 := (V.apply_flt k x).1.imp id fun h => by
  simp only [allCodes, List.mem_cons, List.not_mem_nil, or_false] at h ⊢; omega
theorem faultF_sl (hA : ErrA ad g) {F : Flt} (hF : FltA F) (hs : Mem g w (flC ad F eb :: L)) : Calls Tryz.prog 25 #[flV ad F eb] w (Ret fun v w' => v = ffV F ∧ Mem g w' (flC ad F eb :: L)) := by
  obtain ⟨c, z⟩ := F
  cases z with
  | none => exact fault0_sl hA hs (hF.imp (fun h => congrArg Prod.fst h) id)
  | some z =>
    have hc : c ∈ allCodes := by
      rcases hF with h | h
      · cases h
      · exact h
    exact faultAt_sl hA hs hc
theorem sameFt_sl (hA : ErrA ad g) {F : Flt} (hF : FltA F) (hs : Mem g w (flC ad F eb :: L)) : Calls Tryz.prog 24 #[flV ad F eb, ffV F] w (Ret fun v w' => v = .bool true ∧ Mem g w' (flC ad F eb :: L)) := by
  unfold ffV
  refine calls_cw Tryz.func24 rfl rfl ?_
  skip
  refine cw_seq (cw_region ?_)
  refine lw_box (v := .agg _) hs rfl rfl ?_
  clear hs
  intro b3 w hs
  try simp only [List.set_cons_succ, List.set_cons_zero] at hs
  refine lw_val rfl (run_assign (v := .bool _) rfl) ?_
  refine lw_nil ?_
  refine cw_seq ?_
  refine cw_drawS mixes hs ?_
  intro w tr hK
  replace hs := tr _ hs
  clear tr
  refine aw_take 0 rfl (by kernel_rfl) (by kernel_rfl) (by kernel_rfl) rfl (fun w hs => run_move (v := flV ad _ _) rfl) hK ?_
  refine aw_take 2 rfl (by kernel_rfl) (by kernel_rfl) (by kernel_rfl) rfl (fun w hs => run_loadRow hs 0 rfl Tryz.underlying57 sz57 rfl) hK ?_
  refine aw_ready [1] (by kernel_rfl) (by simp) ?_
  refine ⟨⟨_, rfl, ?_⟩, trivial⟩
  refine lw_call rfl en25 (faultF_sl hA hF (hs.arr [1, 0] 2 (by decide))) ?_
  clear hs
  rintro _ w ⟨rfl, hs⟩
  replace hs := hs.arr [1, 0] 2 (by decide)
  clear hK
  have hK := hs
  refine lw_nil ⟨hK, ?_⟩
  refine aw_ready [3] (by kernel_rfl) (by simp) ?_
  refine ⟨⟨_, rfl, ?_⟩, trivial⟩
  refine lw_call rfl en54 (hs.calls (sameFault_any _ _ _ _ _ _ w)) ?_
  clear hs
  rintro _ w ⟨rfl, hs⟩
  clear hK
  have hK := hs
  refine lw_nil ⟨hK, ?_⟩
  refine aw_take 4 rfl (by kernel_rfl) (by kernel_rfl) (by kernel_rfl) rfl (fun w hs => run_assign (v := .bool _) rfl) hK ?_
  refine aw_done (by kernel_rfl) ?_
  clear hK
  refine cw_ret ?_
  refine res1 (v := .bool _) rfl rfl ?_
  exact ⟨_, rfl, ret_b (by simp), hs.tail⟩
end Go.Proofs.YtdkgdjnbpjjfmaaGreatDoor
namespace Go.Proofs.YtdkgdjnbpjjfmaaGreatDoor
set_option linter.all false
open Go.RowKit Go.ChangeShapes

def codeName : Nat → String
  | 101 => "cordwood/api.ErrEnd"
  | 102 => "cordwood/api.ErrSum"
  | 103 => "cordwood/api.ErrShape"
  | 104 => "cordwood/api.ErrMany"
  | 105 => "cordwood/api.ErrRange"
  | 106 => "cordwood/api.ErrName"
  | 107 => "cordwood/api.ErrNone"
  | 108 => "cordwood/api.ErrThere"
  | 109 => "cordwood/api.ErrFull"
  | 110 => "cordwood/api.ErrCrash"
  | 111 => "cordwood/api.ErrStore"
  | 112 => "cordwood/api.ErrKind"
  | 113 => "cordwood/api.ErrState"
  | 114 => "cordwood/api.ErrFenced"
  | 115 => "cordwood/api.ErrOutside"
  | 116 => "cordwood/api.ErrUnavail"
  | 117 => "cordwood/api.ErrWord"
  | 118 => "cordwood/api.ErrNumber"
  | _ => "cordwood/api.ErrClosed"

/-- The datum of a sentinel. -/
def isSent : DataW Unit → Bool
  | .iface n (.ptr (.agg [.lit (.string _)])) => n == "*errors.errorString"
  | _ => false
theorem isSent_open {d : DataW Unit} (h : isSent d = true) : ∃ text, d = .iface "*errors.errorString" (.ptr (.agg [.lit (.string text)])) := by
  unfold isSent at h
  split at h
  · obtain rfl := eq_of_beq h; exact ⟨_, rfl⟩
  · cases h

theorem rowE (u : TypeId) (h : Tryz.prog.typeName? 3 u = some "*errors.errorString") : u = 246 :=
  have star : "*" ++ "errors.errorString" = "*errors.errorString" := by decide
  typeName_ptr_named (nm := "errors.errorString") (by rw [star]; kernel_rfl) (by kernel_rfl) (by decide) u (by rw [star]; exact h)

/-- What one listed sentinel says. -/
def SentAt (W : World) (n : String) (a : Addr) : Prop :=
  ∃ g, Tryz.prog.globalNamed n = some g ∧ W.cell? ⟨g, 0, none⟩ = some (.iface 246 (.pointer (some a))) ∧ ∃ s, W.cell? a = some (.string s)

theorem errF : ∃ f : Field, Tryz.prog.underlying 263 = some (.struct #[f]) ∧ f.type = 9 ∧ f.offset = 0 := ⟨_, Tryz.underlying263, rfl, rfl⟩
theorem cellsE : Tryz.prog.cellsOf 263 = 1 := by kernel_rfl
theorem cellsS : Tryz.prog.cellsOf 9 = 1 := by kernel_rfl

set_option maxRecDepth 100000 in
theorem sents {W : World} : ∀ {l : List (String × DataW Unit)} {ps : List MemPlace}, DataW.LaidVars Tryz.prog W l ps → (∀ x ∈ l, isSent x.2 = true) →
    (∀ x ∈ l, ∀ g, Tryz.prog.globalNamed x.1 = some g → (Tryz.prog.globals[g]?).map (·.type) = some 27) →
    (∀ b off, MemPlace.cell b off ∈ ps → (∃ c t, W.heap[b]? = some (.cells c t (0, 0))) ∧ ∀ u v, W.cell? ⟨b, off, none⟩ = some (.iface u v) → Value.okWide Tryz.prog W .any 0 u v) → ps.Nodup →
    ∃ ads : List Addr, ads.length = l.length ∧ (∀ i (h : i < l.length) (h' : i < ads.length), SentAt W l[i].1 ads[i]) ∧ ads.Nodup ∧ (∀ a ∈ ads, MemPlace.cell a.block a.off ∈ ps)
  | [], ps, h, _, _, _, _ => ⟨[], rfl, (fun i h => absurd h (by simp)), List.nodup_nil, (fun a h => by cases h)⟩
  | (n, d) :: r, ps, h, hs, hg, hrows, hnd => by
    obtain ⟨g0, t0, cs0, f0, p0, q0, hg0, ht0, hv0, hd0, hr, rfl⟩ := h
    obtain rfl := Option.some.inj ((hg (n, d) List.mem_cons_self g0 hg0).symm.trans ht0)
    obtain ⟨text, rfl⟩ := isSent_open (hs (n, d) List.mem_cons_self)
    obtain ⟨l0⟩ := cs0
    obtain ⟨ef, hef, hft, hfo⟩ := errF
    have ok0 : ∀ u v, l0 = [.iface u v] → Value.okWide Tryz.prog W .any 0 u v := fun u v e => by
      subst e
      exact (hrows g0 0 (by simp [MemPlace.row])).2 u v (by simpa using World.var?_cell hg0 hv0 0)
    obtain ⟨a0, s0, rfl, hc0, hs0, hz0, rfl⟩ := errorString_of_trod Tryz.underlying27 rowE Tryz.underlying246 hef hft hfo Tryz.underlying9 cellsE cellsS hd0 ok0
    obtain ⟨ads, hlen, hat, hnod, hin⟩ := sents hr (fun x hx => hs x (.tail _ hx)) (fun x hx => hg x (.tail _ hx)) (fun b off hm => hrows b off (List.mem_append_right _ hm)) (hnd.sublist (List.sublist_append_right _ _))
    refine ⟨a0 :: ads, by simp [hlen], fun i h h' => ?_, ?_, fun a ha => ?_⟩
    · cases i with
      | zero => exact ⟨g0, hg0, by simpa using World.var?_cell hg0 hv0 0, s0, hc0⟩
      | succ i => exact hat i (by simpa using h) (by simpa using h')
    · refine List.nodup_cons.2 ⟨fun hm => ?_, hnod⟩
      have h1 := hin a0 hm
      have h2 : MemPlace.cell a0.block a0.off ∈ MemPlace.row ⟨g0, 0, none⟩ 1 ++ MemPlace.row a0 1 := by simp [MemPlace.row]
      exact (List.nodup_append.1 hnd).2.2 _ h2 _ h1 rfl
    · rcases List.mem_cons.1 ha with rfl | ha
      · simp [MemPlace.row]
      · exact List.mem_append_right _ (hin a ha)

/-- The codes' sentinels. -/
theorem errs_of_laid {L : List Nat} {l : List (String × DataW Unit)} {W : World} (h : laidMetH Tryz.prog l W)
    (hl : l.map (·.1) = L.map codeName) (hs : l.all (fun x => isSent x.2) = true) (hL : L.all (fun c => decide (c ∈ allCodes)) = true) (hnd : decide L.Nodup = true) :
    ∃ ad, Errs L ad W.heap.size W := by
  have hs' : ∀ x ∈ l, isSent x.2 = true := List.all_eq_true.1 hs
  have hL' : ∀ c ∈ L, c ∈ allCodes := fun c hc => of_decide_eq_true (List.all_eq_true.1 hL c hc)
  have hnd' : L.Nodup := of_decide_eq_true hnd
  have hplain : laidMetH Tryz.prog l W = laidMet Tryz.prog l W := MakeChecks.laidMetH_plain _ _ _ (List.all_eq_true.2 fun x hx => by
    obtain ⟨t, e⟩ := isSent_open (hs' x hx)
    rw [e]; rfl)
  rw [hplain] at h
  obtain ⟨ps, hv, hn, hrows⟩ := h
  have gl : ∀ c ∈ allCodes, Tryz.prog.globalNamed (codeName c) = some (gidx c) ∧ (Tryz.prog.globals[gidx c]?).map (·.type) = some 27 := by
    intro c hc
    have hb : ∀ c, decide (Tryz.prog.globalNamed (codeName c) = some (gidx c)) = true → decide ((Tryz.prog.globals[gidx c]?).map (·.type) = some 27) = true → Tryz.prog.globalNamed (codeName c) = some (gidx c) ∧ (Tryz.prog.globals[gidx c]?).map (·.type) = some 27 := fun c h1 h2 => ⟨of_decide_eq_true h1, of_decide_eq_true h2⟩
    simp only [allCodes, List.mem_cons, List.not_mem_nil, or_false] at hc
    rcases hc with rfl | rfl | rfl | rfl | rfl | rfl | rfl | rfl | rfl | rfl | rfl | rfl | rfl | rfl | rfl | rfl | rfl | rfl | rfl <;> exact hb _ (by kernel_rfl) (by kernel_rfl)
  have hlen : l.length = L.length := by simpa using congrArg List.length hl
  have hname : ∀ i (h : i < l.length) (h' : i < L.length), l[i].1 = codeName L[i] := fun i h h' => by
    have := congrArg (·[i]?) hl
    simpa [h, h'] using this
  obtain ⟨ads, hal, hat, hanod, hin⟩ := sents hv hs' (fun x hx g hg => by
    obtain ⟨i, hi, rfl⟩ := List.getElem_of_mem hx
    have hi' : i < L.length := by omega
    rw [hname i hi hi'] at hg
    have := gl L[i] (hL' _ (List.getElem_mem hi'))
    obtain rfl := Option.some.inj (this.1.symm.trans hg)
    exact this.2) hrows hn
  have hidx : ∀ c ∈ L, ∃ i, ∃ (h : i < L.length) (h' : i < ads.length), L[i] = c ∧ L.idxOf c = i := fun c hc => by
    have h := List.idxOf_lt_length_of_mem hc
    exact ⟨L.idxOf c, h, by omega, List.getElem_idxOf h, rfl⟩
  refine ⟨fun c => ads.getD (L.idxOf c) default, ⟨fun c hc e => ?_, fun c hc => ?_, fun c hc => ?_, fun c hc d hd e => ?_, fun c hc => ?_⟩⟩
  · subst e; have := hL' 0 hc; revert this; decide
  all_goals obtain ⟨i, hi, hi', hci, hx⟩ := hidx c hc
  · obtain ⟨g, hg, hcell, _⟩ := hat i (by omega) hi'
    rw [hname i (by omega) hi, hci, (gl c (hL' c hc)).1] at hg
    obtain rfl := Option.some.inj hg
    have hp : c ≠ 0 := fun e => by subst e; have := hL' 0 hc; revert this; decide
    rw [hcell]
    simp only [errV, hp, if_false]
    rw [hx, List.getD_eq_getElem?_getD, List.getElem?_eq_getElem hi']
    rfl
  · obtain ⟨⟨cs, t, hb⟩, _⟩ := hrows _ _ (hin ads[i] (List.getElem_mem hi'))
    refine ⟨cs, t, ?_⟩
    rw [hx, List.getD_eq_getElem?_getD, List.getElem?_eq_getElem hi']
    exact hb
  · obtain ⟨j, hj, hj', hdj, hy⟩ := hidx d hd
    simp only [hx, hy, List.getD_eq_getElem?_getD, List.getElem?_eq_getElem hi', List.getElem?_eq_getElem hj', Option.getD_some] at e
    have := (List.getElem_inj hanod).1 e
    subst this
    exact hci.symm.trans hdj
  · obtain ⟨g, hg, hcell, s, hs⟩ := hat i (by omega) hi'
    rw [hname i (by omega) hi, hci, (gl c (hL' c hc)).1] at hg
    obtain rfl := Option.some.inj hg
    have hlt : ∀ {a : Addr} {v : Value}, W.cell? a = some v → a.block < W.heap.size := fun {a v} h => by
      rcases Nat.lt_or_ge a.block W.heap.size with h' | h'
      · exact h'
      · simp [World.cell?, Array.getElem?_eq_none h'] at h
    refine ⟨hlt hcell, ?_⟩
    rw [hx, List.getD_eq_getElem?_getD, List.getElem?_eq_getElem hi']
    exact hlt hs

/-! ### slices that came in -/
theorem seq_of_cells {W : World} {x : Addr} {len cap : Nat} {f : Nat → Value} (hl : len ≤ cap) (h : ∀ i, i < cap → W.cell? (x.add i) = some (f i)) :
    seqV W (.slice (some x) len cap) ((List.range len).map f) := by
  refine ⟨_, _, _, rfl, by simp, hl, (fun h => by cases h), ?_⟩
  rcases Nat.eq_zero_or_pos cap with h0 | h0
  · exact .inl h0
  right
  obtain ⟨b, off, sp⟩ := x
  have h1 := h 0 h0
  have hsp : sp = none ∧ ∃ cs E fz, W.heap[b]? = some (.cells cs E fz) := by
    simp only [World.cell?, Addr.add, if_true] at h1
    split at h1
    · rename_i c t f' hh
      cases sp with
      | none => exact ⟨rfl, c, t, f', hh⟩
      | some q => simp at h1
    · cases h1
  obtain ⟨rfl, cs, E, fz, hb⟩ := hsp
  have hc : ∀ i, i < cap → cs[off + i]? = some (f i) := fun i hi => by
    have := h i hi
    simp only [World.cell?, Addr.add_lit] at this
    rw [hb] at this
    simpa using this
  refine ⟨b, off, cs, E, fz, rfl, hb, ?_, fun i hi => ?_⟩
  · have := (Array.getElem?_eq_some_iff.1 (hc (cap - 1) (by omega))).1
    omega
  · simp only [List.length_map, List.length_range] at hi
    rw [hc i (by omega)]
    simp [hi]

/-- A slice of integers that came in: nil; or a row of 'cap' cells that hold the numbers 'zs', each of its kind. -/
def IsRow (k : IntKind) (w : World) (a : Option Addr) (len cap : Nat) (zs : List Int) : Prop :=
  (a = none ∧ len = 0 ∧ cap = 0 ∧ zs = []) ∨
  ∃ x, a = some x ∧ len ≤ cap ∧ cap ≤ maxLen ∧ zs.length = cap ∧ (∀ i, i < zs.length → w.cell? (x.add i) = some (.int k (zs.getD i 0))) ∧ ∀ n ∈ zs, (Lit.int k n).wf = true
theorem IsRow.len {k : IntKind} {w : World} {a : Option Addr} {len cap : Nat} {zs : List Int} (h : IsRow k w a len cap zs) : len ≤ cap ∧ cap ≤ maxLen ∧ (zs.take len).length = len := by
  rcases h with ⟨rfl, rfl, rfl, rfl⟩ | ⟨x, rfl, h1, h2, h3, _, _⟩
  · exact ⟨Nat.le_refl _, Nat.zero_le _, rfl⟩
  · exact ⟨h1, h2, by simp; omega⟩
theorem IsRow.seq {k : IntKind} {w : World} {a : Option Addr} {len cap : Nat} {zs : List Int} (h : IsRow k w a len cap zs) : seqV w (.slice a len cap) ((zs.take len).map (Value.int k)) := by
  rcases h with ⟨rfl, rfl, rfl, rfl⟩ | ⟨x, rfl, h1, h2, h3, h4, _⟩
  · exact seqV.nil w
  · have := seq_of_cells (W := w) (x := x) (f := fun i => .int k (zs.getD i 0)) h1 (fun i hi => h4 i (by omega))
    have e : (List.range len).map (fun i => Value.int k (zs.getD i 0)) = (zs.take len).map (Value.int k) := by
      apply List.ext_getElem?
      intro i
      simp only [List.getElem?_map, List.getElem?_range, List.getElem?_take]
      by_cases hi : i < len
      · have hz : i < zs.length := by omega
        simp [hi, List.getElem?_eq_getElem hz]
      · simp [hi]
    rwa [e] at this
theorem IsRow.wf {k : IntKind} {w : World} {a : Option Addr} {len cap : Nat} {zs : List Int} (h : IsRow k w a len cap zs) : ∀ z ∈ zs.take len, (Lit.int k z).wf = true := by
  rcases h with ⟨rfl, rfl, rfl, rfl⟩ | ⟨x, rfl, _, _, _, _, h5⟩
  · intro z hz; cases hz
  · intro z hz; exact h5 z (List.mem_of_mem_take hz)
theorem IsRow.ints {w : World} {a : Option Addr} {len cap : Nat} {zs : List Int} (h : IsRow .i64 w a len cap zs) : seqV w (.slice a len cap) (intsL (zs.take len)) := h.seq
theorem IsRow.bytes {w : World} {a : Option Addr} {len cap : Nat} {zs : List Int} (h : IsRow .u8 w a len cap zs) : seqV w (.slice a len cap) (bytesL ((zs.take len).map fun z => UInt8.ofNat z.toNat)) := by
  have h1 := h.seq
  have h2 := h.wf
  have e : (zs.take len).map (Value.int .u8) = bytesL ((zs.take len).map fun z => UInt8.ofNat z.toNat) := by
    simp only [bytesL, List.map_map]
    refine List.map_congr_left fun z hz => ?_
    have := h2 z hz
    simp only [Lit.wf, IntKind.min, IntKind.max, Bool.and_eq_true, decide_eq_true_eq] at this
    have h0 : 0 ≤ z ∧ z < 256 := by revert this; simp [IntKind.signed, IntKind.bits]; omega
    simp only [Function.comp, u8v, Value.int.injEq, true_and]
    have : (UInt8.ofNat z.toNat).toNat = z.toNat := by simp; omega
    rw [this]; omega
  rwa [e] at h1
set_option maxRecDepth 100000 in
theorem blk_of_ok {W : World} {base : Nat} {t e : TypeId} {a : Option Addr} {n c : Nat} (ht : Tryz.prog.underlying t = some (.slice e)) (h : Value.okWide Tryz.prog W .any base t (.slice a n c)) : ∀ b, blk (.slice a n c) = some b → b < W.heap.size := by
  intro b hb
  cases a with
  | none => cases hb
  | some x =>
    simp only [blk, Option.some.injEq] at hb
    subst hb
    simp only [Value.okWide, ht, Cell.okWide, Cell.ok] at h
    obtain ⟨_, _, _, _, row, cells, hs, _⟩ := h
    rcases Nat.lt_or_ge x.block W.heap.size with h' | h'
    · exact h'
    · simp [World.shape?, Array.getElem?_eq_none h'] at hs
end Go.Proofs.YtdkgdjnbpjjfmaaGreatDoor
namespace Go.Proofs.YtdkgdjnbpjjfmaaGreatDoor
set_option maxRecDepth 100000
theorem headMay : Tryz.prog.mayEnter = true := by kernel_rfl
theorem headLifts : (Rows.mlogBytesRow.lifted == Tryz.prog.liftsFinal) = true := by kernel_rfl
theorem headMake : (Tryz.prog.make == some Rows.mlogBytesRow.make) = true := by kernel_rfl
theorem both_true {a b : Bool} (ha : a = true) (hb : b = true) : (a && b) = true := by rw [ha, hb]; rfl
end Go.Proofs.YtdkgdjnbpjjfmaaGreatDoor
