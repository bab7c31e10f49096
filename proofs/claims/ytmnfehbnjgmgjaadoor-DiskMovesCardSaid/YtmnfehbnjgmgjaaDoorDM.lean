/- The law DiskMoves: a file that takes another one's name has its bytes there. -/
import Derived.Test.YtmnfehbnjgmgjaaDoorDl
import Derived.Test.YtmnfehbnjgmgjaaDoorDC
namespace Go.Proofs.YtmnfehbnjgmgjaaDoor
set_option linter.all false
open Go.RowKit
attribute [local irreducible] errV
variable {g w : World} {L M : List HP} {ad : Nat → Addr} {p : Nat} {d : Dk}

theorem crashFs_id {picks : List Int} {fs : List (Nat × Fl)} (h : ∀ i F, aget fs i = some F → F.syn = F.b.length) : ∀ (l : List Nat) (k : Nat), crashFs picks k l fs = fs
  | [], _ => rfl
  | j :: l, k => by
    simp only [crashFs]
    cases hj : aget fs j with
    | none => exact crashFs_id h l (k + 1)
    | some F =>
      have h0 : pickN picks (k + 1) 0 = 0 := by have := pickN_le picks (k + 1) 0; omega
      have hs := h j F hj
      have : F.crashed picks k = F := by
        obtain ⟨i, b, q⟩ := F
        simp only at hs
        subst hs
        simp [Fl.crashed, h0]
      simp only [this]
      rw [aput_same hj]
      exact crashFs_id h l (k + 1)
abbrev nO : ByteArray := ⟨#[111, 108, 100]⟩
abbrev nW : ByteArray := ⟨#[110, 101, 119]⟩
abbrev mvD (names kept : List (ByteArray × Nat)) (ch : List Chg) (files calls : Nat) (fs : List (Nat × Fl)) : Dk := ⟨1000, names, kept, ch, files, 0, false, calls, fs⟩
abbrev mvF (la lb : List UInt8) : List (Nat × Fl) := [(1, ⟨1, la, la.length⟩), (2, ⟨2, lb, lb.length⟩)]
theorem mvF_whole (la lb : List UInt8) : ∀ i F, aget (mvF la lb) i = some F → F.syn = F.b.length := by
  intro i F h
  simp only [aget] at h
  split at h
  · cases h; rfl
  · split at h
    · cases h; rfl
    · cases h
theorem len_at {n : ByteArray} {i : Nat} {F : Fl} (h1 : d.down = false) (hn : aget d.names n = some i) (hf : aget d.fs i = some F) : d.lenR n = (0, F.b.length) := by simp [Dk.lenR, Dk.file, h1, hn, Dk.fl, hf]
theorem read_all {n : ByteArray} {i : Nat} {F : Fl} (h1 : d.down = false) (hn : aget d.names n = some i) (hf : aget d.fs i = some F) : d.readR n 0 (F.b.length : Int) = (0, F.b) := (Dk.readR_at (o := 0) (m := F.b.length) h1 hn hf (by omega)).trans (by simp)
/-- What is there behind the crash. -/
theorem moves_crash (la lb : List UInt8) (picks : List Int) (dir : Bool) : ∃ mv v, ∀ e, e = (if dir then mvD [(nO, 2)] [(nO, 2)] [] 2 9 (mvF la lb) else mvD [(nO, 2)] [(nO, 1), (nW, 2)] [⟨nO, nW, some 2⟩] 2 8 (mvF la lb)).crash picks →
    (dir = true → mv = true) ∧ (mv = true ∧ v = lb ∨ mv = false ∧ v = la) ∧ e.lenR nO = (0, v.length) ∧ e.readR nO 0 (v.length : Int) = (0, v) ∧ sortT (keysOf e.names) = (if mv then [nO] else [nW, nO]) ∧ (∀ x ∈ keysOf e.names, x.size ≤ 1000000) ∧ e.names.length ≤ 1000000 ∧ e.calls < 1000000 := by
  have hs1 : sortT [nO] = [nO] := by decide +kernel
  have hs2 : sortT [nO, nW] = [nW, nO] := by
    have h1 : sortB (bytesOf [nO, nW]) = bytesOf [nW, nO] := by
      rw [perm_sortB (show (bytesOf [nO, nW]).Perm (bytesOf [nW, nO]) from List.Perm.swap _ _ _)]
      exact List.mergeSort_of_pairwise (by decide +kernel)
    unfold sortT
    rw [h1]
    decide +kernel
  have hz1 : ∀ x ∈ [nO], x.size ≤ 1000000 := by decide +kernel
  have hz2 : ∀ x ∈ [nO, nW], x.size ≤ 1000000 := by decide +kernel
  cases dir with
  | true =>
    refine ⟨true, lb, fun e he => ?_⟩
    have : e = mvD [(nO, 2)] [(nO, 2)] [] 2 9 (mvF la lb) := by
      rw [he]
      unfold Dk.crash
      simp only [if_true, crashFs_id (mvF_whole la lb), List.take_nil, applyAll, List.foldl_nil]
    subst this
    exact ⟨fun _ => rfl, .inl ⟨rfl, rfl⟩, len_at (F := ⟨2, lb, lb.length⟩) rfl rfl rfl, read_all (F := ⟨2, lb, lb.length⟩) rfl rfl rfl, hs1, hz1, show 1 ≤ 1000000 by decide, show _ < 1000000 by first | exact (show 9 < 1000000 by decide) | exact (show 8 < 1000000 by decide)⟩
  | false =>
    have hp := pickN_le picks 0 1
    rcases Nat.lt_or_ge (pickN picks 0 1) 1 with h | h
    · refine ⟨false, la, fun e he => ?_⟩
      have : e = mvD [(nO, 1), (nW, 2)] [(nO, 1), (nW, 2)] [] 2 8 (mvF la lb) := by
        rw [he]
        unfold Dk.crash
        simp only [Bool.false_eq_true, if_false, crashFs_id (mvF_whole la lb), List.length_cons, List.length_nil, show pickN picks 0 (0 + 1) = 0 from by show pickN picks 0 1 = 0; omega, List.take_zero, applyAll, List.foldl_nil]
      subst this
      exact ⟨fun h => (by cases h), .inr ⟨rfl, rfl⟩, len_at (F := ⟨1, la, la.length⟩) rfl rfl rfl, read_all (F := ⟨1, la, la.length⟩) rfl rfl rfl, hs2, hz2, show 2 ≤ 1000000 by decide, show 8 < 1000000 by decide⟩
    · refine ⟨true, lb, fun e he => ?_⟩
      have : e = mvD [(nO, 2)] [(nO, 2)] [] 2 8 (mvF la lb) := by
        rw [he]
        unfold Dk.crash
        simp only [Bool.false_eq_true, if_false, crashFs_id (mvF_whole la lb), List.length_cons, List.length_nil, show pickN picks 0 (0 + 1) = 1 from by show pickN picks 0 1 = 1; omega]
        rfl
      subst this
      exact ⟨fun h => (by cases h), .inl ⟨rfl, rfl⟩, len_at (F := ⟨2, lb, lb.length⟩) rfl rfl rfl, read_all (F := ⟨2, lb, lb.length⟩) rfl rfl rfl, hs1, hz1, show 1 ≤ 1000000 by decide, show _ < 1000000 by first | exact (show 9 < 1000000 by decide) | exact (show 8 < 1000000 by decide)⟩
set_option maxRecDepth 100000 in
theorem diskMoves_sl (hE : ErrK ad g) (hs : Mem g w []) {a0 a1 : Option Addr} {n0 n1 c0 c1 : Nat} {la lb : List UInt8} {dir : Bool} {pick : Int} (hpk : InI64 pick) (h0 : Came g (.slice a0 n0 c0) (bytesL la)) (h1 : Came g (.slice a1 n1 c1) (bytesL lb))
    (e0 : n0 = la.length) (e1 : n1 = lb.length) : Calls Tryd.prog 11 #[.slice a0 n0 c0, .slice a1 n1 c1, .bool dir, .int .i64 pick] w (Ret fun v w' => v = .bool true ∧ Mem g w' []) := by
  subst e0 e1
  have hs1 : sortT [nO] = [nO] := by decide +kernel
  obtain ⟨mv, v, hmv⟩ := moves_crash la lb [pick] dir
  obtain ⟨E, hEq⟩ : ∃ E, E = (if dir then mvD [(nO, 2)] [(nO, 2)] [] 2 9 (mvF la lb) else mvD [(nO, 2)] [(nO, 1), (nW, 2)] [⟨nO, nW, some 2⟩] 2 8 (mvF la lb)).crash [pick] := ⟨_, rfl⟩
  obtain ⟨f1, f2, f3, f4, f5, f6, f7, f8⟩ := hmv E hEq
  refine calls_cw Tryd.func11 rfl rfl ?_
  skip
  refine cw_seq ?_
  refine cw_region ?_
  first | refine lw_val rfl (run_assign (v := .bool _) rfl) ?_
  refine lw_nil ?_
  refine cw_seq ?_
  refine cw_region ?_
  refine lw_call rfl en48 (first4_sl hE hs) ?_
  clear hs
  rintro _ w ⟨rfl, hs⟩
  first | refine lw_val rfl (run_assign (v := .bool _) rfl) ?_
  refine lw_nil ?_
  refine cw_seq ?_
  refine cw_seq ?_
  refine cw_region ?_
  first | refine lw_val rfl (run_move (v := .bool _) rfl) ?_
  refine lw_val rfl (run_not rfl) ?_
  refine lw_nil ?_
  refine cw_iff rfl (not_f (rfl)) ?_
  refine cw_skip ?_
  refine cw_seq ?_
  refine cw_seq ?_
  refine cw_region ?_
  first | refine lw_val rfl (run_move (v := .slice _ _ _) rfl) ?_
  refine lw_val rfl (run_lenS Tryd.underlying23 rfl) ?_
  refine lw_val rfl (run_gtr rfl rfl) ?_
  first | refine lw_val rfl (run_move (v := .bool _) rfl) ?_
  refine lw_split (t := _) (d := 25) rfl ?_ ?_
  · intro h24
    have g24 := of_decide_eq_true h24
    refine lw_off rfl rfl rfl h24 ?_
    refine lw_off rfl rfl rfl h24 ?_
    refine lw_off rfl rfl rfl h24 ?_
    first | refine lw_val rfl (run_pickT (v := .bool _) rfl h24 rfl) ?_
    first | refine lw_val rfl (run_move (v := .bool _) rfl) ?_
    refine lw_off rfl rfl rfl rfl ?_
    refine lw_off rfl rfl rfl rfl ?_
    first | refine lw_val rfl (run_pickT (v := .bool _) rfl rfl rfl) ?_
    refine lw_nil ?_
    refine cw_ift rfl rfl ?_
    refine cw_seq ?_
    refine cw_region ?_
    first | refine lw_val rfl (run_move (v := .bool _) rfl) ?_
    first | refine lw_val rfl (run_assign (v := .bool _) rfl) ?_
    refine lw_nil ?_
    refine cw_ret ?_
    refine res1 (v := .bool _) rfl rfl ?_
    exact ⟨_, rfl, rfl, hs⟩
  · intro h24
    have g24 := of_decide_eq_false h24
    refine lw_on rfl rfl h24 ?_
    first | refine lw_val rfl (run_move (v := .slice _ _ _) rfl) ?_
    refine lw_on rfl rfl h24 ?_
    refine lw_val rfl (run_lenS Tryd.underlying23 rfl) ?_
    refine lw_on rfl rfl h24 ?_
    refine lw_val rfl (run_gtr rfl rfl) ?_
    first | refine lw_val rfl (run_pickF (v := .bool _) rfl h24 rfl) ?_
    first | refine lw_val rfl (run_move (v := .bool _) rfl) ?_
    refine lw_split (t := _) (d := 30) rfl ?_ ?_
    · intro h28
      have g28 := of_decide_eq_true h28
      refine lw_off rfl rfl rfl h28 ?_
      refine lw_off rfl rfl rfl h28 ?_
      first | refine lw_val rfl (run_pickT (v := .bool _) rfl h28 rfl) ?_
      refine lw_nil ?_
      refine cw_ift rfl rfl ?_
      refine cw_seq ?_
      refine cw_region ?_
      first | refine lw_val rfl (run_move (v := .bool _) rfl) ?_
      first | refine lw_val rfl (run_assign (v := .bool _) rfl) ?_
      refine lw_nil ?_
      refine cw_ret ?_
      refine res1 (v := .bool _) rfl rfl ?_
      exact ⟨_, rfl, rfl, hs⟩
    · intro h28
      have g28 := of_decide_eq_false h28
      refine lw_on rfl rfl h28 ?_
      first | refine lw_val rfl (run_move (v := .bool _) rfl) ?_
      refine lw_on rfl rfl h28 ?_
      refine lw_val rfl (run_not rfl) ?_
      first | refine lw_val rfl (run_pickF (v := .bool _) rfl h28 rfl) ?_
      refine lw_nil ?_
      refine cw_iff rfl (not_f (rfl)) ?_
      refine cw_skip ?_
      refine cw_seq ?_
      refine cw_region ?_
      refine lw_call rfl en26 (newd_sl hs (r := 1000) (by decide) (by decide)) ?_
      clear hs
      rintro _ w ⟨p, rfl, hs⟩
      first | refine lw_val rfl (run_move (v := .tuple _) rfl) ?_
      first | refine lw_val rfl (run_extract (v := .pointer (some _)) rfl rfl) ?_ | refine lw_val rfl (run_extract (v := .pointer none) rfl rfl) ?_
      first | refine lw_val rfl (run_extract (v := errV ad _) rfl rfl) ?_ | refine lw_val rfl (run_extract (v := .nilIface) rfl rfl) ?_ | refine lw_val rfl (run_extract (v := eV ad _ _) rfl rfl) ?_ | refine lw_val rfl (run_extract (v := .iface _ (.pointer (some _))) rfl rfl) ?_
      first | refine lw_val rfl (run_assign (v := .pointer (some _)) rfl) ?_ | refine lw_val rfl (run_assign (v := .pointer none) rfl) ?_
      first | refine lw_val rfl (run_assign (v := errV ad _) rfl) ?_ | refine lw_val rfl (run_assign (v := .nilIface) rfl) ?_ | refine lw_val rfl (run_assign (v := eV ad _ _) rfl) ?_ | refine lw_val rfl (run_assign (v := .iface _ (.pointer (some _))) rfl) ?_
      refine lw_nil ?_
      refine cw_seq ?_
      refine cw_seq ?_
      refine cw_region ?_
      first | refine lw_val rfl (run_move (v := .pointer (some _)) rfl) ?_ | refine lw_val rfl (run_move (v := .pointer none) rfl) ?_
      refine lw_val rfl (run_eqpn Tryd.underlying45 rfl rfl) ?_
      first | refine lw_val rfl (run_move (v := .bool _) rfl) ?_
      refine lw_on rfl rfl rfl ?_
      first | refine lw_val rfl (run_move (v := errV ad _) rfl) ?_ | refine lw_val rfl (run_move (v := .nilIface) rfl) ?_ | refine lw_val rfl (run_move (v := eV ad _ _) rfl) ?_ | refine lw_val rfl (run_move (v := .iface _ (.pointer (some _))) rfl) ?_
      refine lw_on rfl rfl rfl ?_
      first | refine lw_val rfl (run_neerrn (ad := ad) rfl) ?_ | refine lw_val rfl (run_nenn rfl) ?_ | refine lw_val rfl (run_neE (ad := ad) rfl) ?_
      first | refine lw_val rfl (run_pickF (v := .bool _) rfl rfl rfl) ?_
      first | refine lw_val rfl (run_move (v := .bool _) rfl) ?_
      refine lw_on rfl rfl (rfl) ?_
      first | refine lw_val rfl (run_move (v := .pointer (some _)) rfl) ?_ | refine lw_val rfl (run_move (v := .pointer none) rfl) ?_
      refine lw_on rfl rfl (rfl) ?_
      refine lw_call rfl en29 (create_sl hE hs (by decide) nO (k := 0) (d2 := mvD [(nO, 1)] [] [⟨nO, ByteArray.empty, some 1⟩] 1 1 [(1, ⟨1, [], 0⟩)]) (by kernel_rfl)) ?_
      clear hs
      rintro _ w ⟨rfl, hs⟩
      refine lw_on rfl rfl (rfl) ?_
      first | refine lw_val rfl (run_neerrn (ad := ad) rfl) ?_ | refine lw_val rfl (run_nenn rfl) ?_ | refine lw_val rfl (run_neE (ad := ad) rfl) ?_
      first | refine lw_val rfl (run_pickF (v := .bool _) rfl (rfl) rfl) ?_
      first | refine lw_val rfl (run_move (v := .bool _) rfl) ?_
      refine lw_on rfl rfl (rfl) ?_
      first | refine lw_val rfl (run_move (v := .pointer (some _)) rfl) ?_ | refine lw_val rfl (run_move (v := .pointer none) rfl) ?_
      refine lw_on rfl rfl (rfl) ?_
      first | refine lw_val rfl (run_move (v := .slice _ _ _) rfl) ?_
      refine lw_on rfl rfl (rfl) ?_
      refine lw_call rfl en30 (append_sl hE hs (by decide) nO (x := la) (k := 0) (d2 := mvD [(nO, 1)] [] [⟨nO, ByteArray.empty, some 1⟩] 1 2 [(1, ⟨1, la, 0⟩)]) (h0.rd _) rfl (by omega) (Dk.append_up (i := 1) rfl rfl rfl (by show 0 + la.length ≤ 1000; omega))) ?_
      clear hs
      rintro _ w ⟨rfl, hs⟩
      refine lw_on rfl rfl (rfl) ?_
      first | refine lw_val rfl (run_neerrn (ad := ad) rfl) ?_ | refine lw_val rfl (run_nenn rfl) ?_ | refine lw_val rfl (run_neE (ad := ad) rfl) ?_
      first | refine lw_val rfl (run_pickF (v := .bool _) rfl (rfl) rfl) ?_
      first | refine lw_val rfl (run_move (v := .bool _) rfl) ?_
      refine lw_on rfl rfl (rfl) ?_
      first | refine lw_val rfl (run_move (v := .pointer (some _)) rfl) ?_ | refine lw_val rfl (run_move (v := .pointer none) rfl) ?_
      refine lw_on rfl rfl (rfl) ?_
      refine lw_call rfl en51 (sync_sl hE hs (show 2 < 1000000 by decide) nO (k := 0) (d2 := mvD [(nO, 1)] [] [⟨nO, ByteArray.empty, some 1⟩] 1 3 [(1, ⟨1, la, la.length⟩)]) (Dk.sync_up (i := 1) rfl rfl rfl)) ?_
      clear hs
      rintro _ w ⟨rfl, hs⟩
      refine lw_on rfl rfl (rfl) ?_
      first | refine lw_val rfl (run_neerrn (ad := ad) rfl) ?_ | refine lw_val rfl (run_nenn rfl) ?_ | refine lw_val rfl (run_neE (ad := ad) rfl) ?_
      first | refine lw_val rfl (run_pickF (v := .bool _) rfl (rfl) rfl) ?_
      first | refine lw_val rfl (run_move (v := .bool _) rfl) ?_
      refine lw_on rfl rfl (rfl) ?_
      first | refine lw_val rfl (run_move (v := .pointer (some _)) rfl) ?_ | refine lw_val rfl (run_move (v := .pointer none) rfl) ?_
      refine lw_on rfl rfl (rfl) ?_
      refine lw_call rfl en29 (create_sl hE hs (show 3 < 1000000 by decide) nW (k := 0) (d2 := mvD [(nO, 1), (nW, 2)] [] [⟨nO, ByteArray.empty, some 1⟩, ⟨nW, ByteArray.empty, some 2⟩] 2 4 [(1, ⟨1, la, la.length⟩), (2, ⟨2, [], 0⟩)]) (Dk.create_up rfl rfl (by decide +kernel) (by kernel_rfl))) ?_
      clear hs
      rintro _ w ⟨rfl, hs⟩
      refine lw_on rfl rfl (rfl) ?_
      first | refine lw_val rfl (run_neerrn (ad := ad) rfl) ?_ | refine lw_val rfl (run_nenn rfl) ?_ | refine lw_val rfl (run_neE (ad := ad) rfl) ?_
      first | refine lw_val rfl (run_pickF (v := .bool _) rfl (rfl) rfl) ?_
      first | refine lw_val rfl (run_move (v := .bool _) rfl) ?_
      refine lw_on rfl rfl (rfl) ?_
      first | refine lw_val rfl (run_move (v := .pointer (some _)) rfl) ?_ | refine lw_val rfl (run_move (v := .pointer none) rfl) ?_
      refine lw_on rfl rfl (rfl) ?_
      first | refine lw_val rfl (run_move (v := .slice _ _ _) rfl) ?_
      refine lw_on rfl rfl (rfl) ?_
      refine lw_call rfl en30 (append_sl hE hs (show 4 < 1000000 by decide) nW (x := lb) (k := 0) (d2 := mvD [(nO, 1), (nW, 2)] [] [⟨nO, ByteArray.empty, some 1⟩, ⟨nW, ByteArray.empty, some 2⟩] 2 5 [(1, ⟨1, la, la.length⟩), (2, ⟨2, lb, 0⟩)]) (h1.rd _) rfl (by omega) (Dk.append_up (i := 2) rfl rfl rfl (by show la.length + (0 + 0) + lb.length ≤ 1000; omega))) ?_
      clear hs
      rintro _ w ⟨rfl, hs⟩
      refine lw_on rfl rfl (rfl) ?_
      first | refine lw_val rfl (run_neerrn (ad := ad) rfl) ?_ | refine lw_val rfl (run_nenn rfl) ?_ | refine lw_val rfl (run_neE (ad := ad) rfl) ?_
      first | refine lw_val rfl (run_pickF (v := .bool _) rfl (rfl) rfl) ?_
      first | refine lw_val rfl (run_move (v := .bool _) rfl) ?_
      refine lw_on rfl rfl (rfl) ?_
      first | refine lw_val rfl (run_move (v := .pointer (some _)) rfl) ?_ | refine lw_val rfl (run_move (v := .pointer none) rfl) ?_
      refine lw_on rfl rfl (rfl) ?_
      refine lw_call rfl en51 (sync_sl hE hs (show 5 < 1000000 by decide) nW (k := 0) (d2 := mvD [(nO, 1), (nW, 2)] [] [⟨nO, ByteArray.empty, some 1⟩, ⟨nW, ByteArray.empty, some 2⟩] 2 6 (mvF la lb)) (Dk.sync_up (i := 2) rfl rfl rfl)) ?_
      clear hs
      rintro _ w ⟨rfl, hs⟩
      refine lw_on rfl rfl (rfl) ?_
      first | refine lw_val rfl (run_neerrn (ad := ad) rfl) ?_ | refine lw_val rfl (run_nenn rfl) ?_ | refine lw_val rfl (run_neE (ad := ad) rfl) ?_
      first | refine lw_val rfl (run_pickF (v := .bool _) rfl (rfl) rfl) ?_
      first | refine lw_val rfl (run_move (v := .bool _) rfl) ?_
      refine lw_on rfl rfl (rfl) ?_
      first | refine lw_val rfl (run_move (v := .pointer (some _)) rfl) ?_ | refine lw_val rfl (run_move (v := .pointer none) rfl) ?_
      refine lw_on rfl rfl (rfl) ?_
      refine lw_call rfl en52 (syncDir_sl hE hs (show 6 < 1000000 by decide) (k := 0) (d2 := mvD [(nO, 1), (nW, 2)] [(nO, 1), (nW, 2)] [] 2 7 (mvF la lb)) (Dk.syncDir_up rfl rfl)) ?_
      clear hs
      rintro _ w ⟨rfl, hs⟩
      refine lw_on rfl rfl (rfl) ?_
      first | refine lw_val rfl (run_neerrn (ad := ad) rfl) ?_ | refine lw_val rfl (run_nenn rfl) ?_ | refine lw_val rfl (run_neE (ad := ad) rfl) ?_
      first | refine lw_val rfl (run_pickF (v := .bool _) rfl (rfl) rfl) ?_
      first | refine lw_val rfl (run_move (v := .bool _) rfl) ?_
      refine lw_on rfl rfl (rfl) ?_
      first | refine lw_val rfl (run_move (v := .pointer (some _)) rfl) ?_ | refine lw_val rfl (run_move (v := .pointer none) rfl) ?_
      refine lw_on rfl rfl (rfl) ?_
      refine lw_call rfl en50 (rename_sl hE hs (show 7 < 1000000 by decide) nW nO (k := 0) (d2 := mvD [(nO, 2)] [(nO, 1), (nW, 2)] [⟨nO, nW, some 2⟩] 2 8 (mvF la lb)) (Dk.rename_up (i := 2) rfl rfl rfl (by decide +kernel))) ?_
      clear hs
      rintro _ w ⟨rfl, hs⟩
      refine lw_on rfl rfl (rfl) ?_
      first | refine lw_val rfl (run_neerrn (ad := ad) rfl) ?_ | refine lw_val rfl (run_nenn rfl) ?_ | refine lw_val rfl (run_neE (ad := ad) rfl) ?_
      first | refine lw_val rfl (run_pickF (v := .bool _) rfl (rfl) rfl) ?_
      refine lw_nil ?_
      refine cw_iff rfl (rfl) ?_
      refine cw_skip ?_
      refine cw_seq ?_
      refine cw_seq ?_
      refine cw_region ?_
      first | refine lw_val rfl (run_move (v := .bool _) rfl) ?_
      first | refine lw_val rfl (run_move (v := .bool _) rfl) ?_
      refine lw_split (t := _) (d := 88) rfl ?_ ?_
      · intro h2
        rw [if_pos h2] at hEq
        refine lw_on rfl rfl h2 ?_
        first | refine lw_val rfl (run_move (v := .pointer (some _)) rfl) ?_ | refine lw_val rfl (run_move (v := .pointer none) rfl) ?_
        refine lw_on rfl rfl h2 ?_
        refine lw_call rfl en52 (syncDir_sl hE hs (show 8 < 1000000 by decide) (k := 0) (d2 := mvD [(nO, 2)] [(nO, 2)] [] 2 9 (mvF la lb)) (Dk.syncDir_up rfl rfl)) ?_
        clear hs
        rintro _ w ⟨rfl, hs⟩
        refine lw_on rfl rfl h2 ?_
        first | refine lw_val rfl (run_neerrn (ad := ad) rfl) ?_ | refine lw_val rfl (run_nenn rfl) ?_ | refine lw_val rfl (run_neE (ad := ad) rfl) ?_
        first | refine lw_val rfl (run_pickT (v := .bool _) rfl h2 rfl) ?_
        refine lw_nil ?_
        refine cw_iff rfl (rfl) ?_
        refine cw_skip ?_
        refine cw_seq ?_
        obtain ⟨D, hD⟩ : ∃ D, D = mvD [(nO, 2)] [(nO, 2)] [] 2 9 (mvF la lb) := ⟨_, rfl⟩
        have g1 : D.readR nO 0 (lb.length : Int) = (0, lb) := by rw [hD]; exact read_all (F := ⟨2, lb, lb.length⟩) rfl rfl rfl
        have g2 : keysOf D.names = [nO] ∧ D.names.length = 1 ∧ D.calls < 1000000 ∧ D.used = lb.length := by rw [hD]; exact ⟨rfl, rfl, by first | exact (show 9 < 1000000 by decide) | exact (show 8 < 1000000 by decide), rfl⟩
        rw [← hD] at hs hEq
        refine cw_region ?_
        first | refine lw_val rfl (run_move (v := .pointer (some _)) rfl) ?_ | refine lw_val rfl (run_move (v := .pointer none) rfl) ?_
        first | refine lw_val rfl (run_move (v := .slice _ _ _) rfl) ?_
        refine lw_val rfl (run_lenS Tryd.underlying23 rfl) ?_
        refine lw_call rfl en37 (read_sl hE hs nO (off := 0) (m := lb.length) (inI (by decide) (by decide)) (inI (by omega) (by omega)) g1) ?_
        clear hs
        rintro _ w ⟨a97, c97, rfl, hs⟩
        first | refine lw_val rfl (run_move (v := .tuple _) rfl) ?_
        first | refine lw_val rfl (run_extract (v := .slice _ _ _) rfl rfl) ?_
        first | refine lw_val rfl (run_extract (v := errV ad _) rfl rfl) ?_ | refine lw_val rfl (run_extract (v := .nilIface) rfl rfl) ?_ | refine lw_val rfl (run_extract (v := eV ad _ _) rfl rfl) ?_ | refine lw_val rfl (run_extract (v := .iface _ (.pointer (some _))) rfl rfl) ?_
        first | refine lw_val rfl (run_assign (v := .slice _ _ _) rfl) ?_
        first | refine lw_val rfl (run_assign (v := errV ad _) rfl) ?_ | refine lw_val rfl (run_assign (v := .nilIface) rfl) ?_ | refine lw_val rfl (run_assign (v := eV ad _ _) rfl) ?_ | refine lw_val rfl (run_assign (v := .iface _ (.pointer (some _))) rfl) ?_
        refine lw_nil ?_
        refine cw_seq ?_
        refine cw_seq ?_
        refine cw_region ?_
        first | refine lw_val rfl (run_move (v := errV ad _) rfl) ?_ | refine lw_val rfl (run_move (v := .nilIface) rfl) ?_ | refine lw_val rfl (run_move (v := eV ad _ _) rfl) ?_ | refine lw_val rfl (run_move (v := .iface _ (.pointer (some _))) rfl) ?_
        first | refine lw_val rfl (run_neerrn (ad := ad) rfl) ?_ | refine lw_val rfl (run_nenn rfl) ?_ | refine lw_val rfl (run_neE (ad := ad) rfl) ?_
        first | refine lw_val rfl (run_move (v := .bool _) rfl) ?_
        refine lw_on rfl rfl (rfl) ?_
        first | refine lw_val rfl (run_move (v := .slice _ _ _) rfl) ?_
        refine lw_on rfl rfl (rfl) ?_
        first | refine lw_val rfl (run_move (v := .slice _ _ _) rfl) ?_
        refine lw_on rfl rfl (rfl) ?_
        refine lw_call rfl en22 (sameB_sl hs (la := lb) (lb := lb) (hs.rdOwn 0 rfl) (h1.rd _) rfl rfl (by omega)) ?_
        clear hs
        rintro _ w ⟨rfl, hs⟩
        refine lw_on rfl rfl (rfl) ?_
        refine lw_val rfl (run_not rfl) ?_
        first | refine lw_val rfl (run_pickF (v := .bool _) rfl (rfl) rfl) ?_
        first | refine lw_val rfl (run_move (v := .bool _) rfl) ?_
        refine lw_on rfl rfl (not_f (decide_eq_true rfl)) ?_
        first | refine lw_val rfl (run_move (v := .pointer (some _)) rfl) ?_ | refine lw_val rfl (run_move (v := .pointer none) rfl) ?_
        refine lw_on rfl rfl (not_f (decide_eq_true rfl)) ?_
        refine lw_call rfl en44 (list_sl (L := own _ _ :: []) (hs.arr [1, 0] 2 (by decide)) (by rw [g2.1]; decide +kernel) (by rw [g2.2.1]; decide)) ?_
        clear hs
        rintro _ w ⟨a110, c110, rfl, hs⟩
        rw [g2.1, hs1] at hs ⊢
        refine lw_on rfl rfl (not_f (decide_eq_true rfl)) ?_
        refine lw_buildSlice hs rfl ((textsL [nO])) Tryd.underlying69 zs9 rfl (cells_one (textsL_one _)) rfl rfl rfl ?_
        clear hs
        intro b111 w hs
        try simp only [List.set_cons_succ, List.set_cons_zero] at hs
        refine lw_on rfl rfl (not_f (decide_eq_true rfl)) ?_
        refine lw_call rfl en45 (sameT_sl hs (la := [nO]) (lb := [nO]) (hs.rdOwn 1 rfl) (Rd.cells (n := 1) 0 rfl rfl) rfl rfl (by decide)) ?_
        clear hs
        rintro _ w ⟨rfl, hs⟩
        refine lw_on rfl rfl (not_f (decide_eq_true rfl)) ?_
        refine lw_val rfl (run_not rfl) ?_
        first | refine lw_val rfl (run_pickF (v := .bool _) rfl (not_f (decide_eq_true rfl)) rfl) ?_
        first | refine lw_val rfl (run_move (v := .bool _) rfl) ?_
        refine lw_on rfl rfl (not_f (decide_eq_true rfl)) ?_
        first | refine lw_val rfl (run_move (v := .pointer (some _)) rfl) ?_ | refine lw_val rfl (run_move (v := .pointer none) rfl) ?_
        refine lw_on rfl rfl (not_f (decide_eq_true rfl)) ?_
        refine lw_call rfl en53 (used_sl (d := D) (L := _ :: _ :: _ :: []) (hs.arr [2, 0, 1, 3] 4 (by decide)) g2.2.2.1) ?_
        clear hs
        rintro _ w ⟨rfl, hs⟩
        refine lw_on rfl rfl (not_f (decide_eq_true rfl)) ?_
        first | refine lw_val rfl (run_move (v := .slice _ _ _) rfl) ?_
        refine lw_on rfl rfl (not_f (decide_eq_true rfl)) ?_
        refine lw_val rfl (run_lenS Tryd.underlying23 rfl) ?_
        refine lw_on rfl rfl (not_f (decide_eq_true rfl)) ?_
        refine lw_val rfl (run_nei rfl rfl) ?_
        first | refine lw_val rfl (run_pickF (v := .bool _) rfl (not_f (decide_eq_true rfl)) rfl) ?_
        refine lw_nil ?_
        refine cw_iff rfl (by rw [g2.2.2.2]; simp) ?_
        refine cw_skip ?_
        refine cw_seq ?_
        replace hs := hs.arr [0] 4 (by decide)
        refine cw_region ?_
        first | refine lw_val rfl (run_move (v := .pointer (some _)) rfl) ?_ | refine lw_val rfl (run_move (v := .pointer none) rfl) ?_
        first | refine lw_val rfl (run_move (v := .int .i64 _) rfl) ?_
        refine lw_buildSlice hs rfl ((intsL [pick])) Tryd.underlying63 zs3 rfl (cells_one (intsL_one _)) rfl rfl rfl ?_
        clear hs
        intro b124 w hs
        try simp only [List.set_cons_succ, List.set_cons_zero] at hs
        refine lw_call rfl en42 (crash_sl (d := D) (L := _ :: []) (hs.arr [1, 0] 2 (by decide)) g2.2.2.1 (picks := [pick]) (Rd.cells (n := 1) 0 rfl rfl) rfl (show 1 ≤ 1000000000 by decide)) ?_
        clear hs
        rintro _ w ⟨rfl, hs⟩
        refine lw_nil ?_
        rw [← hEq] at hs
        replace hs := hs.drop 1
        refine cw_seq ?_
        refine cw_region ?_
        first | refine lw_val rfl (run_move (v := .pointer (some _)) rfl) ?_ | refine lw_val rfl (run_move (v := .pointer none) rfl) ?_
        refine lw_call rfl en54 (len_sl hE hs nO f3) ?_
        clear hs
        rintro _ w ⟨rfl, hs⟩
        first | refine lw_val rfl (run_move (v := .tuple _) rfl) ?_
        first | refine lw_val rfl (run_extract (v := .int .i64 _) rfl rfl) ?_
        first | refine lw_val rfl (run_extract (v := errV ad _) rfl rfl) ?_ | refine lw_val rfl (run_extract (v := .nilIface) rfl rfl) ?_ | refine lw_val rfl (run_extract (v := eV ad _ _) rfl rfl) ?_ | refine lw_val rfl (run_extract (v := .iface _ (.pointer (some _))) rfl rfl) ?_
        first | refine lw_val rfl (run_assign (v := .int .i64 _) rfl) ?_
        first | refine lw_val rfl (run_assign (v := errV ad _) rfl) ?_ | refine lw_val rfl (run_assign (v := .nilIface) rfl) ?_ | refine lw_val rfl (run_assign (v := eV ad _ _) rfl) ?_ | refine lw_val rfl (run_assign (v := .iface _ (.pointer (some _))) rfl) ?_
        refine lw_nil ?_
        refine cw_seq ?_
        refine cw_region ?_
        first | refine lw_val rfl (run_move (v := .pointer (some _)) rfl) ?_ | refine lw_val rfl (run_move (v := .pointer none) rfl) ?_
        first | refine lw_val rfl (run_move (v := .int .i64 _) rfl) ?_
        refine lw_call rfl en37 (read_sl hE hs nO (off := 0) (m := v.length) (inI (by decide) (by decide)) (by have hvl : v.length ≤ 200 := (by rcases f2 with h | h <;> (rw [h.2]; omega)); exact inI (by omega) (by omega)) f4) ?_
        clear hs
        rintro _ w ⟨a134, c134, rfl, hs⟩
        first | refine lw_val rfl (run_move (v := .tuple _) rfl) ?_
        first | refine lw_val rfl (run_extract (v := .slice _ _ _) rfl rfl) ?_
        first | refine lw_val rfl (run_extract (v := errV ad _) rfl rfl) ?_ | refine lw_val rfl (run_extract (v := .nilIface) rfl rfl) ?_ | refine lw_val rfl (run_extract (v := eV ad _ _) rfl rfl) ?_ | refine lw_val rfl (run_extract (v := .iface _ (.pointer (some _))) rfl rfl) ?_
        first | refine lw_val rfl (run_assign (v := .slice _ _ _) rfl) ?_
        first | refine lw_val rfl (run_assign (v := errV ad _) rfl) ?_ | refine lw_val rfl (run_assign (v := .nilIface) rfl) ?_ | refine lw_val rfl (run_assign (v := eV ad _ _) rfl) ?_ | refine lw_val rfl (run_assign (v := .iface _ (.pointer (some _))) rfl) ?_
        refine lw_nil ?_
        refine cw_seq ?_
        refine cw_region ?_
        first | refine lw_val rfl (run_move (v := .pointer (some _)) rfl) ?_ | refine lw_val rfl (run_move (v := .pointer none) rfl) ?_
        refine lw_call rfl en44 (list_sl (L := own _ _ :: []) (hs.arr [1, 0] 2 (by decide)) f6 f7) ?_
        clear hs
        rintro _ w ⟨a138, c138, rfl, hs⟩
        rw [f5] at hs ⊢
        refine lw_buildSlice hs rfl ((textsL [nO])) Tryd.underlying69 zs9 rfl (cells_one (textsL_one _)) rfl rfl rfl ?_
        clear hs
        intro b139 w hs
        try simp only [List.set_cons_succ, List.set_cons_zero] at hs
        refine lw_call rfl en45 (sameT_sl hs (la := if mv then [nO] else [nW, nO]) (lb := [nO]) (hs.rdOwn 1 rfl) (Rd.cells (n := 1) 0 rfl rfl) rfl rfl (by cases mv <;> decide)) ?_
        clear hs
        rintro _ w ⟨rfl, hs⟩
        first | refine lw_val rfl (run_assign (v := .bool _) rfl) ?_
        refine lw_nil ?_
        refine cw_seq ?_
        refine cw_seq ?_
        refine cw_region ?_
        first | refine lw_val rfl (run_move (v := errV ad _) rfl) ?_ | refine lw_val rfl (run_move (v := .nilIface) rfl) ?_ | refine lw_val rfl (run_move (v := eV ad _ _) rfl) ?_ | refine lw_val rfl (run_move (v := .iface _ (.pointer (some _))) rfl) ?_
        first | refine lw_val rfl (run_neerrn (ad := ad) rfl) ?_ | refine lw_val rfl (run_nenn rfl) ?_ | refine lw_val rfl (run_neE (ad := ad) rfl) ?_
        first | refine lw_val rfl (run_move (v := .bool _) rfl) ?_
        refine lw_on rfl rfl (rfl) ?_
        first | refine lw_val rfl (run_move (v := errV ad _) rfl) ?_ | refine lw_val rfl (run_move (v := .nilIface) rfl) ?_ | refine lw_val rfl (run_move (v := eV ad _ _) rfl) ?_ | refine lw_val rfl (run_move (v := .iface _ (.pointer (some _))) rfl) ?_
        refine lw_on rfl rfl (rfl) ?_
        first | refine lw_val rfl (run_neerrn (ad := ad) rfl) ?_ | refine lw_val rfl (run_nenn rfl) ?_ | refine lw_val rfl (run_neE (ad := ad) rfl) ?_
        first | refine lw_val rfl (run_pickF (v := .bool _) rfl (rfl) rfl) ?_
        first | refine lw_val rfl (run_move (v := .bool _) rfl) ?_
        refine lw_on rfl rfl (rfl) ?_
        first | refine lw_val rfl (run_move (v := .bool _) rfl) ?_
        refine lw_on rfl rfl (rfl) ?_
        first | refine lw_val rfl (run_move (v := .bool _) rfl) ?_
        refine lw_on rfl rfl h2 ?_
        first | refine lw_val rfl (run_move (v := .bool _) rfl) ?_
        refine lw_on rfl rfl h2 ?_
        refine lw_val rfl (run_not rfl) ?_
        refine lw_on rfl rfl (rfl) ?_
        first | refine lw_val rfl (run_pickT (v := .bool _) rfl h2 rfl) ?_
        first | refine lw_val rfl (run_pickF (v := .bool _) rfl (rfl) rfl) ?_
        refine lw_nil ?_
        refine cw_iff rfl (not_f (by rw [f1 h2]; exact decide_eq_true rfl)) ?_
        refine cw_skip ?_
        refine cw_seq ?_
        refine cw_seq ?_
        refine cw_region ?_
        first | refine lw_val rfl (run_move (v := .bool _) rfl) ?_
        refine lw_nil ?_
        refine cw_ift rfl (by rw [f1 h2]; exact decide_eq_true rfl) ?_
        refine cw_seq ?_
        refine cw_region ?_
        first | refine lw_val rfl (run_move (v := .slice _ _ _) rfl) ?_
        first | refine lw_val rfl (run_move (v := .slice _ _ _) rfl) ?_
        refine lw_call rfl en22 (sameB_sl hs (la := v) (lb := lb) (hs.rdOwn 3 rfl) (h1.rd _) rfl rfl (by rw [show v = lb by rcases f2 with h | h; exact h.2; have := f1 h2; rw [h.1] at this; cases this]; omega)) ?_
        clear hs
        rintro _ w ⟨rfl, hs⟩
        first | refine lw_val rfl (run_assign (v := .bool _) rfl) ?_
        refine lw_nil ?_
        refine cw_ret ?_
        refine res1 (v := .bool _) rfl rfl ?_
        exact ⟨_, rfl, ret_b (decide_eq_true (by rcases f2 with h | h; exact h.2; have := f1 h2; rw [h.1] at this; cases this)), hs.nil⟩
      · intro h2
        rw [if_neg (by rw [h2]; decide)] at hEq
        refine lw_off rfl rfl rfl h2 ?_
        refine lw_off rfl rfl rfl h2 ?_
        refine lw_off rfl rfl rfl h2 ?_
        first | refine lw_val rfl (run_pickF (v := .bool _) rfl h2 rfl) ?_
        refine lw_nil ?_
        refine cw_iff rfl rfl ?_
        refine cw_skip ?_
        refine cw_seq ?_
        obtain ⟨D, hD⟩ : ∃ D, D = mvD [(nO, 2)] [(nO, 1), (nW, 2)] [⟨nO, nW, some 2⟩] 2 8 (mvF la lb) := ⟨_, rfl⟩
        have g1 : D.readR nO 0 (lb.length : Int) = (0, lb) := by rw [hD]; exact read_all (F := ⟨2, lb, lb.length⟩) rfl rfl rfl
        have g2 : keysOf D.names = [nO] ∧ D.names.length = 1 ∧ D.calls < 1000000 ∧ D.used = lb.length := by rw [hD]; exact ⟨rfl, rfl, by first | exact (show 9 < 1000000 by decide) | exact (show 8 < 1000000 by decide), rfl⟩
        rw [← hD] at hs hEq
        refine cw_region ?_
        first | refine lw_val rfl (run_move (v := .pointer (some _)) rfl) ?_ | refine lw_val rfl (run_move (v := .pointer none) rfl) ?_
        first | refine lw_val rfl (run_move (v := .slice _ _ _) rfl) ?_
        refine lw_val rfl (run_lenS Tryd.underlying23 rfl) ?_
        refine lw_call rfl en37 (read_sl hE hs nO (off := 0) (m := lb.length) (inI (by decide) (by decide)) (inI (by omega) (by omega)) g1) ?_
        clear hs
        rintro _ w ⟨a97, c97, rfl, hs⟩
        first | refine lw_val rfl (run_move (v := .tuple _) rfl) ?_
        first | refine lw_val rfl (run_extract (v := .slice _ _ _) rfl rfl) ?_
        first | refine lw_val rfl (run_extract (v := errV ad _) rfl rfl) ?_ | refine lw_val rfl (run_extract (v := .nilIface) rfl rfl) ?_ | refine lw_val rfl (run_extract (v := eV ad _ _) rfl rfl) ?_ | refine lw_val rfl (run_extract (v := .iface _ (.pointer (some _))) rfl rfl) ?_
        first | refine lw_val rfl (run_assign (v := .slice _ _ _) rfl) ?_
        first | refine lw_val rfl (run_assign (v := errV ad _) rfl) ?_ | refine lw_val rfl (run_assign (v := .nilIface) rfl) ?_ | refine lw_val rfl (run_assign (v := eV ad _ _) rfl) ?_ | refine lw_val rfl (run_assign (v := .iface _ (.pointer (some _))) rfl) ?_
        refine lw_nil ?_
        refine cw_seq ?_
        refine cw_seq ?_
        refine cw_region ?_
        first | refine lw_val rfl (run_move (v := errV ad _) rfl) ?_ | refine lw_val rfl (run_move (v := .nilIface) rfl) ?_ | refine lw_val rfl (run_move (v := eV ad _ _) rfl) ?_ | refine lw_val rfl (run_move (v := .iface _ (.pointer (some _))) rfl) ?_
        first | refine lw_val rfl (run_neerrn (ad := ad) rfl) ?_ | refine lw_val rfl (run_nenn rfl) ?_ | refine lw_val rfl (run_neE (ad := ad) rfl) ?_
        first | refine lw_val rfl (run_move (v := .bool _) rfl) ?_
        refine lw_on rfl rfl (rfl) ?_
        first | refine lw_val rfl (run_move (v := .slice _ _ _) rfl) ?_
        refine lw_on rfl rfl (rfl) ?_
        first | refine lw_val rfl (run_move (v := .slice _ _ _) rfl) ?_
        refine lw_on rfl rfl (rfl) ?_
        refine lw_call rfl en22 (sameB_sl hs (la := lb) (lb := lb) (hs.rdOwn 0 rfl) (h1.rd _) rfl rfl (by omega)) ?_
        clear hs
        rintro _ w ⟨rfl, hs⟩
        refine lw_on rfl rfl (rfl) ?_
        refine lw_val rfl (run_not rfl) ?_
        first | refine lw_val rfl (run_pickF (v := .bool _) rfl (rfl) rfl) ?_
        first | refine lw_val rfl (run_move (v := .bool _) rfl) ?_
        refine lw_on rfl rfl (not_f (decide_eq_true rfl)) ?_
        first | refine lw_val rfl (run_move (v := .pointer (some _)) rfl) ?_ | refine lw_val rfl (run_move (v := .pointer none) rfl) ?_
        refine lw_on rfl rfl (not_f (decide_eq_true rfl)) ?_
        refine lw_call rfl en44 (list_sl (L := own _ _ :: []) (hs.arr [1, 0] 2 (by decide)) (by rw [g2.1]; decide +kernel) (by rw [g2.2.1]; decide)) ?_
        clear hs
        rintro _ w ⟨a110, c110, rfl, hs⟩
        rw [g2.1, hs1] at hs ⊢
        refine lw_on rfl rfl (not_f (decide_eq_true rfl)) ?_
        refine lw_buildSlice hs rfl ((textsL [nO])) Tryd.underlying69 zs9 rfl (cells_one (textsL_one _)) rfl rfl rfl ?_
        clear hs
        intro b111 w hs
        try simp only [List.set_cons_succ, List.set_cons_zero] at hs
        refine lw_on rfl rfl (not_f (decide_eq_true rfl)) ?_
        refine lw_call rfl en45 (sameT_sl hs (la := [nO]) (lb := [nO]) (hs.rdOwn 1 rfl) (Rd.cells (n := 1) 0 rfl rfl) rfl rfl (by decide)) ?_
        clear hs
        rintro _ w ⟨rfl, hs⟩
        refine lw_on rfl rfl (not_f (decide_eq_true rfl)) ?_
        refine lw_val rfl (run_not rfl) ?_
        first | refine lw_val rfl (run_pickF (v := .bool _) rfl (not_f (decide_eq_true rfl)) rfl) ?_
        first | refine lw_val rfl (run_move (v := .bool _) rfl) ?_
        refine lw_on rfl rfl (not_f (decide_eq_true rfl)) ?_
        first | refine lw_val rfl (run_move (v := .pointer (some _)) rfl) ?_ | refine lw_val rfl (run_move (v := .pointer none) rfl) ?_
        refine lw_on rfl rfl (not_f (decide_eq_true rfl)) ?_
        refine lw_call rfl en53 (used_sl (d := D) (L := _ :: _ :: _ :: []) (hs.arr [2, 0, 1, 3] 4 (by decide)) g2.2.2.1) ?_
        clear hs
        rintro _ w ⟨rfl, hs⟩
        refine lw_on rfl rfl (not_f (decide_eq_true rfl)) ?_
        first | refine lw_val rfl (run_move (v := .slice _ _ _) rfl) ?_
        refine lw_on rfl rfl (not_f (decide_eq_true rfl)) ?_
        refine lw_val rfl (run_lenS Tryd.underlying23 rfl) ?_
        refine lw_on rfl rfl (not_f (decide_eq_true rfl)) ?_
        refine lw_val rfl (run_nei rfl rfl) ?_
        first | refine lw_val rfl (run_pickF (v := .bool _) rfl (not_f (decide_eq_true rfl)) rfl) ?_
        refine lw_nil ?_
        refine cw_iff rfl (by rw [g2.2.2.2]; simp) ?_
        refine cw_skip ?_
        refine cw_seq ?_
        replace hs := hs.arr [0] 4 (by decide)
        refine cw_region ?_
        first | refine lw_val rfl (run_move (v := .pointer (some _)) rfl) ?_ | refine lw_val rfl (run_move (v := .pointer none) rfl) ?_
        first | refine lw_val rfl (run_move (v := .int .i64 _) rfl) ?_
        refine lw_buildSlice hs rfl ((intsL [pick])) Tryd.underlying63 zs3 rfl (cells_one (intsL_one _)) rfl rfl rfl ?_
        clear hs
        intro b124 w hs
        try simp only [List.set_cons_succ, List.set_cons_zero] at hs
        refine lw_call rfl en42 (crash_sl (d := D) (L := _ :: []) (hs.arr [1, 0] 2 (by decide)) g2.2.2.1 (picks := [pick]) (Rd.cells (n := 1) 0 rfl rfl) rfl (show 1 ≤ 1000000000 by decide)) ?_
        clear hs
        rintro _ w ⟨rfl, hs⟩
        refine lw_nil ?_
        rw [← hEq] at hs
        replace hs := hs.drop 1
        refine cw_seq ?_
        refine cw_region ?_
        first | refine lw_val rfl (run_move (v := .pointer (some _)) rfl) ?_ | refine lw_val rfl (run_move (v := .pointer none) rfl) ?_
        refine lw_call rfl en54 (len_sl hE hs nO f3) ?_
        clear hs
        rintro _ w ⟨rfl, hs⟩
        first | refine lw_val rfl (run_move (v := .tuple _) rfl) ?_
        first | refine lw_val rfl (run_extract (v := .int .i64 _) rfl rfl) ?_
        first | refine lw_val rfl (run_extract (v := errV ad _) rfl rfl) ?_ | refine lw_val rfl (run_extract (v := .nilIface) rfl rfl) ?_ | refine lw_val rfl (run_extract (v := eV ad _ _) rfl rfl) ?_ | refine lw_val rfl (run_extract (v := .iface _ (.pointer (some _))) rfl rfl) ?_
        first | refine lw_val rfl (run_assign (v := .int .i64 _) rfl) ?_
        first | refine lw_val rfl (run_assign (v := errV ad _) rfl) ?_ | refine lw_val rfl (run_assign (v := .nilIface) rfl) ?_ | refine lw_val rfl (run_assign (v := eV ad _ _) rfl) ?_ | refine lw_val rfl (run_assign (v := .iface _ (.pointer (some _))) rfl) ?_
        refine lw_nil ?_
        refine cw_seq ?_
        refine cw_region ?_
        first | refine lw_val rfl (run_move (v := .pointer (some _)) rfl) ?_ | refine lw_val rfl (run_move (v := .pointer none) rfl) ?_
        first | refine lw_val rfl (run_move (v := .int .i64 _) rfl) ?_
        refine lw_call rfl en37 (read_sl hE hs nO (off := 0) (m := v.length) (inI (by decide) (by decide)) (by have hvl : v.length ≤ 200 := (by rcases f2 with h | h <;> (rw [h.2]; omega)); exact inI (by omega) (by omega)) f4) ?_
        clear hs
        rintro _ w ⟨a134, c134, rfl, hs⟩
        first | refine lw_val rfl (run_move (v := .tuple _) rfl) ?_
        first | refine lw_val rfl (run_extract (v := .slice _ _ _) rfl rfl) ?_
        first | refine lw_val rfl (run_extract (v := errV ad _) rfl rfl) ?_ | refine lw_val rfl (run_extract (v := .nilIface) rfl rfl) ?_ | refine lw_val rfl (run_extract (v := eV ad _ _) rfl rfl) ?_ | refine lw_val rfl (run_extract (v := .iface _ (.pointer (some _))) rfl rfl) ?_
        first | refine lw_val rfl (run_assign (v := .slice _ _ _) rfl) ?_
        first | refine lw_val rfl (run_assign (v := errV ad _) rfl) ?_ | refine lw_val rfl (run_assign (v := .nilIface) rfl) ?_ | refine lw_val rfl (run_assign (v := eV ad _ _) rfl) ?_ | refine lw_val rfl (run_assign (v := .iface _ (.pointer (some _))) rfl) ?_
        refine lw_nil ?_
        refine cw_seq ?_
        refine cw_region ?_
        first | refine lw_val rfl (run_move (v := .pointer (some _)) rfl) ?_ | refine lw_val rfl (run_move (v := .pointer none) rfl) ?_
        refine lw_call rfl en44 (list_sl (L := own _ _ :: []) (hs.arr [1, 0] 2 (by decide)) f6 f7) ?_
        clear hs
        rintro _ w ⟨a138, c138, rfl, hs⟩
        rw [f5] at hs ⊢
        refine lw_buildSlice hs rfl ((textsL [nO])) Tryd.underlying69 zs9 rfl (cells_one (textsL_one _)) rfl rfl rfl ?_
        clear hs
        intro b139 w hs
        try simp only [List.set_cons_succ, List.set_cons_zero] at hs
        refine lw_call rfl en45 (sameT_sl hs (la := if mv then [nO] else [nW, nO]) (lb := [nO]) (hs.rdOwn 1 rfl) (Rd.cells (n := 1) 0 rfl rfl) rfl rfl (by cases mv <;> decide)) ?_
        clear hs
        rintro _ w ⟨rfl, hs⟩
        first | refine lw_val rfl (run_assign (v := .bool _) rfl) ?_
        refine lw_nil ?_
        refine cw_seq ?_
        refine cw_seq ?_
        refine cw_region ?_
        first | refine lw_val rfl (run_move (v := errV ad _) rfl) ?_ | refine lw_val rfl (run_move (v := .nilIface) rfl) ?_ | refine lw_val rfl (run_move (v := eV ad _ _) rfl) ?_ | refine lw_val rfl (run_move (v := .iface _ (.pointer (some _))) rfl) ?_
        first | refine lw_val rfl (run_neerrn (ad := ad) rfl) ?_ | refine lw_val rfl (run_nenn rfl) ?_ | refine lw_val rfl (run_neE (ad := ad) rfl) ?_
        first | refine lw_val rfl (run_move (v := .bool _) rfl) ?_
        refine lw_on rfl rfl (rfl) ?_
        first | refine lw_val rfl (run_move (v := errV ad _) rfl) ?_ | refine lw_val rfl (run_move (v := .nilIface) rfl) ?_ | refine lw_val rfl (run_move (v := eV ad _ _) rfl) ?_ | refine lw_val rfl (run_move (v := .iface _ (.pointer (some _))) rfl) ?_
        refine lw_on rfl rfl (rfl) ?_
        first | refine lw_val rfl (run_neerrn (ad := ad) rfl) ?_ | refine lw_val rfl (run_nenn rfl) ?_ | refine lw_val rfl (run_neE (ad := ad) rfl) ?_
        first | refine lw_val rfl (run_pickF (v := .bool _) rfl (rfl) rfl) ?_
        first | refine lw_val rfl (run_move (v := .bool _) rfl) ?_
        refine lw_on rfl rfl (rfl) ?_
        first | refine lw_val rfl (run_move (v := .bool _) rfl) ?_
        refine lw_on rfl rfl (rfl) ?_
        first | refine lw_val rfl (run_move (v := .bool _) rfl) ?_
        refine lw_off rfl rfl rfl h2 ?_
        refine lw_off rfl rfl rfl h2 ?_
        refine lw_on rfl rfl (rfl) ?_
        first | refine lw_val rfl (run_pickF (v := .bool _) rfl h2 rfl) ?_
        first | refine lw_val rfl (run_pickF (v := .bool _) rfl (rfl) rfl) ?_
        refine lw_nil ?_
        refine cw_iff rfl rfl ?_
        refine cw_skip ?_
        refine cw_seq ?_
        refine cw_seq ?_
        refine cw_region ?_
        first | refine lw_val rfl (run_move (v := .bool _) rfl) ?_
        refine lw_nil ?_
        refine cw_if rfl ?_ ?_
        · intro h140
          have hmt : mv = true := by cases mv; exact absurd (of_decide_eq_true h140) (by decide +kernel); rfl
          have hvb : v = lb := by rcases f2 with h | h; exact h.2; rw [hmt] at h; cases h.1
          refine cw_seq ?_
          refine cw_region ?_
          first | refine lw_val rfl (run_move (v := .slice _ _ _) rfl) ?_
          first | refine lw_val rfl (run_move (v := .slice _ _ _) rfl) ?_
          refine lw_call rfl en22 (sameB_sl hs (la := v) (lb := lb) (hs.rdOwn 3 rfl) (h1.rd _) rfl rfl (by rw [hvb]; omega)) ?_
          clear hs
          rintro _ w ⟨rfl, hs⟩
          first | refine lw_val rfl (run_assign (v := .bool _) rfl) ?_
          refine lw_nil ?_
          refine cw_ret ?_
          refine res1 (v := .bool _) rfl rfl ?_
          exact ⟨_, rfl, ret_b (decide_eq_true hvb), hs.nil⟩
        · intro h140
          have hmf : mv = false := by cases mv; rfl; exact absurd rfl (of_decide_eq_false h140)
          have hva : v = la := by rcases f2 with h | h; rw [hmf] at h; cases h.1; exact h.2
          refine cw_skip ?_
          refine cw_seq ?_
          refine cw_region ?_
          first | refine lw_val rfl (run_move (v := .slice _ _ _) rfl) ?_
          first | refine lw_val rfl (run_move (v := .slice _ _ _) rfl) ?_
          refine lw_call rfl en22 (sameB_sl hs (la := v) (lb := la) (hs.rdOwn 3 rfl) (h0.rd _) rfl rfl (by rw [hva]; omega)) ?_
          clear hs
          rintro _ w ⟨rfl, hs⟩
          first | refine lw_val rfl (run_move (v := .bool _) rfl) ?_
          refine lw_on rfl rfl (decide_eq_true hva) ?_
          first | refine lw_val rfl (run_move (v := .pointer (some _)) rfl) ?_ | refine lw_val rfl (run_move (v := .pointer none) rfl) ?_
          refine lw_on rfl rfl (decide_eq_true hva) ?_
          refine lw_call rfl en44 (list_sl (L := _ :: _ :: _ :: []) (hs.arr [2, 0, 1, 3] 4 (by decide)) f6 f7) ?_
          clear hs
          rintro _ w ⟨a163, c163, rfl, hs⟩
          rw [f5, hmf] at hs ⊢
          refine lw_on rfl rfl (decide_eq_true hva) ?_
          refine lw_buildSlice hs rfl ((textsL [nW, nO])) Tryd.underlying69 zs9 rfl (cells_one (textsL_one _)) rfl rfl rfl ?_
          clear hs
          intro b164 w hs
          try simp only [List.set_cons_succ, List.set_cons_zero] at hs
          refine lw_on rfl rfl (decide_eq_true hva) ?_
          refine lw_call rfl en45 (sameT_sl hs (la := [nW, nO]) (lb := [nW, nO]) (hs.rdOwn 1 rfl) (Rd.cells (n := 2) 0 rfl rfl) rfl rfl (by decide)) ?_
          clear hs
          rintro _ w ⟨rfl, hs⟩
          first | refine lw_val rfl (run_pickT (v := .bool _) rfl (decide_eq_true hva) rfl) ?_
          first | refine lw_val rfl (run_assign (v := .bool _) rfl) ?_
          refine lw_nil ?_
          refine cw_ret ?_
          refine res1 (v := .bool _) rfl rfl ?_
          exact ⟨_, rfl, ret_b (decide_eq_true rfl), hs.nil⟩
end Go.Proofs.YtmnfehbnjgmgjaaDoor
