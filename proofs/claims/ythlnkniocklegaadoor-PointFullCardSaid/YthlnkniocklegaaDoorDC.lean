/- The law DiskCuts: what is cut is cut, synced at once. -/
import Derived.Test.YthlnkniocklegaaDoorDK
import Derived.Test.YthlnkniocklegaaDoorBc
namespace Go.Proofs.YthlnkniocklegaaDoor
set_option linter.all false
open Go.RowKit
attribute [local irreducible] errV
variable {g w : World} {L M : List HP} {ad : Nat → Addr} {p : Nat} {d : Dk}

/-- A disk of one file. -/
abbrev oneD (room : Nat) (n : ByteArray) (kept : List (ByteArray × Nat)) (ch : List Chg) (calls : Nat) (b : List UInt8) (s : Nat) : Dk := ⟨room, [(n, 1)], kept, ch, 1, 0, false, calls, [(1, ⟨1, b, s⟩)]⟩
theorem crash_one (picks : List Int) (room calls s arm : Nat) (dn : Bool) (n : ByteArray) (b : List UInt8) {t : Nat} (ht : s + pickN picks 1 (b.length - s) = t) : (⟨room, [(n, 1)], [(n, 1)], [], 1, arm, dn, calls, [(1, ⟨1, b, s⟩)]⟩ : Dk).crash picks = oneD room n [(n, 1)] [] calls (b.take t) (b.take t).length := by
  subst ht
  simp [Dk.crash, applyAll, keptIds, keysOf, crashFs, aget, aput, Fl.crashed]
theorem one_lenR (room calls s : Nat) (n : ByteArray) (kept : List (ByteArray × Nat)) (ch : List Chg) (b : List UInt8) : Dk.lenR n (oneD room n kept ch calls b s) = (0, b.length) := by simp [Dk.lenR, Dk.file, aget, Dk.fl]
theorem one_synR (room calls s : Nat) (n : ByteArray) (kept : List (ByteArray × Nat)) (ch : List Chg) (b : List UInt8) : Dk.synR n (oneD room n kept ch calls b s) = (0, s) := by simp [Dk.synR, Dk.file, aget, Dk.fl]
theorem one_names (room calls s : Nat) (n : ByteArray) (kept : List (ByteArray × Nat)) (ch : List Chg) (b : List UInt8) : aget (oneD room n kept ch calls b s).names n = some 1 := by simp [aget]
theorem one_cut_bad (room calls s : Nat) (n : ByteArray) (kept : List (ByteArray × Nat)) (ch : List Chg) (b : List UInt8) {z : Int} (h : z < 0 ∨ (b.length : Int) < z) : (oneD room n kept ch calls b s).cut n z = (105, oneD room n kept ch calls b s) := by
  simp only [Dk.cut, Dk.find_up (d := oneD room n kept ch calls b s) rfl rfl (one_names ..)]
  have h1 : z < 0 ∨ (((oneD room n kept ch calls b s).fl 1).b.length : Int) < z := h
  rw [if_pos h1]
theorem one_cut (room calls s : Nat) (n : ByteArray) (kept : List (ByteArray × Nat)) (ch : List Chg) (b : List UInt8) {q : Nat} (h : q ≤ b.length) : (oneD room n kept ch calls b s).cut n (q : Int) = (0, oneD room n kept ch (calls + 1) (b.take q) q) := by
  have h1 : ¬ ((q : Int) < 0 ∨ (((oneD room n kept ch calls b s).fl 1).b.length : Int) < q) := by show ¬ ((q : Int) < 0 ∨ (b.length : Int) < q); omega
  simp only [Dk.cut, Dk.find_up (d := oneD room n kept ch calls b s) rfl rfl (one_names ..)]
  rw [if_neg h1]
  rfl
set_option maxRecDepth 100000 in
theorem diskCuts_sl (hA : ErrA ad g) (hs : Mem g w []) {a1 a2 a4 : Option Addr} {n1 n2 n4 c1 c2 c4 : Nat} {lb lc : List UInt8} {n : Int} {picks : List Int} (h1 : Came g (.slice a1 n1 c1) (bytesL lb)) (h2 : Came g (.slice a2 n2 c2) (bytesL lc)) (h4 : Came g (.slice a4 n4 c4) (intsL picks))
    (e1 : n1 = lb.length) (e2 : n2 = lc.length) (e4 : n4 = picks.length) : Calls Tryd.prog 7 #[.slice a1 n1 c1, .slice a2 n2 c2, .int .i64 n, .slice a4 n4 c4] w (Ret fun v w' => v = .bool true ∧ Mem g w' []) := by
  have hcap := h1.cap
  subst e1 e2 e4
  have hE := hA.disk
  refine calls_cw Tryd.func7 rfl rfl ?_
  skip
  refine cw_seq ?_
  refine cw_region ?_
  first | refine lw_val rfl (run_assign (v := .bool _) rfl) ?_
  refine lw_nil ?_
  refine cw_seq ?_
  refine cw_region ?_
  refine lw_call rfl en15 (first4_sl hE hs) ?_
  clear hs
  rintro _ w ⟨rfl, hs⟩
  first | refine lw_val rfl (run_assign (v := .bool _) rfl) ?_
  refine lw_nil ?_
  refine cw_seq ?_
  refine cw_seq ?_
  refine cw_region ?_
  first | refine lw_val rfl (run_move (v := .bool _) rfl) ?_
  refine lw_val rfl (run_not rfl) ?_
  refine lw_nil ?_
  refine cw_iff rfl (not_f (rfl)) ?_
  refine cw_skip ?_
  refine cw_seq ?_
  refine cw_seq ?_
  refine cw_region ?_
  first | refine lw_val rfl (run_move (v := .slice _ _ _) rfl) ?_
  refine lw_val rfl (run_lenS Tryd.underlying30 rfl) ?_
  refine lw_val rfl (run_gtr rfl rfl) ?_
  first | refine lw_val rfl (run_move (v := .bool _) rfl) ?_
  refine lw_split (t := _) (d := 28) rfl ?_ ?_
  · intro h27
    have g27 := of_decide_eq_true h27
    refine lw_off rfl rfl rfl h27 ?_
    refine lw_off rfl rfl rfl h27 ?_
    refine lw_off rfl rfl rfl h27 ?_
    first | refine lw_val rfl (run_pickT (v := .bool _) rfl h27 rfl) ?_
    first | refine lw_val rfl (run_move (v := .bool _) rfl) ?_
    refine lw_off rfl rfl rfl rfl ?_
    refine lw_off rfl rfl rfl rfl ?_
    refine lw_off rfl rfl rfl rfl ?_
    first | refine lw_val rfl (run_pickT (v := .bool _) rfl rfl rfl) ?_
    first | refine lw_val rfl (run_move (v := .bool _) rfl) ?_
    refine lw_off rfl rfl rfl rfl ?_
    refine lw_off rfl rfl rfl rfl ?_
    first | refine lw_val rfl (run_pickT (v := .bool _) rfl rfl rfl) ?_
    refine lw_nil ?_
    refine cw_ift rfl rfl ?_
    refine cw_seq ?_
    refine cw_region ?_
    first | refine lw_val rfl (run_move (v := .bool _) rfl) ?_
    first | refine lw_val rfl (run_assign (v := .bool _) rfl) ?_
    refine lw_nil ?_
    refine cw_ret ?_
    refine res1 (v := .bool _) rfl rfl ?_
    exact ⟨_, rfl, rfl, hs⟩
  · intro h27
    have g27 := of_decide_eq_false h27
    refine lw_on rfl rfl h27 ?_
    first | refine lw_val rfl (run_move (v := .slice _ _ _) rfl) ?_
    refine lw_on rfl rfl h27 ?_
    refine lw_val rfl (run_lenS Tryd.underlying30 rfl) ?_
    refine lw_on rfl rfl h27 ?_
    refine lw_val rfl (run_gtr rfl rfl) ?_
    first | refine lw_val rfl (run_pickF (v := .bool _) rfl h27 rfl) ?_
    first | refine lw_val rfl (run_move (v := .bool _) rfl) ?_
    refine lw_split (t := _) (d := 33) rfl ?_ ?_
    · intro h31
      have g31 := of_decide_eq_true h31
      refine lw_off rfl rfl rfl h31 ?_
      refine lw_off rfl rfl rfl h31 ?_
      refine lw_off rfl rfl rfl h31 ?_
      first | refine lw_val rfl (run_pickT (v := .bool _) rfl h31 rfl) ?_
      first | refine lw_val rfl (run_move (v := .bool _) rfl) ?_
      refine lw_off rfl rfl rfl rfl ?_
      refine lw_off rfl rfl rfl rfl ?_
      first | refine lw_val rfl (run_pickT (v := .bool _) rfl rfl rfl) ?_
      refine lw_nil ?_
      refine cw_ift rfl rfl ?_
      refine cw_seq ?_
      refine cw_region ?_
      first | refine lw_val rfl (run_move (v := .bool _) rfl) ?_
      first | refine lw_val rfl (run_assign (v := .bool _) rfl) ?_
      refine lw_nil ?_
      refine cw_ret ?_
      refine res1 (v := .bool _) rfl rfl ?_
      exact ⟨_, rfl, rfl, hs⟩
    · intro h31
      have g31 := of_decide_eq_false h31
      refine lw_on rfl rfl h31 ?_
      first | refine lw_val rfl (run_move (v := .slice _ _ _) rfl) ?_
      refine lw_on rfl rfl h31 ?_
      refine lw_val rfl (run_lenS Tryd.underlying22 rfl) ?_
      refine lw_on rfl rfl h31 ?_
      refine lw_val rfl (run_gtr rfl rfl) ?_
      first | refine lw_val rfl (run_pickF (v := .bool _) rfl h31 rfl) ?_
      first | refine lw_val rfl (run_move (v := .bool _) rfl) ?_
      refine lw_split (t := _) (d := 38) rfl ?_ ?_
      · intro h36
        have g36 := of_decide_eq_true h36
        refine lw_off rfl rfl rfl h36 ?_
        refine lw_off rfl rfl rfl h36 ?_
        first | refine lw_val rfl (run_pickT (v := .bool _) rfl h36 rfl) ?_
        refine lw_nil ?_
        refine cw_ift rfl rfl ?_
        refine cw_seq ?_
        refine cw_region ?_
        first | refine lw_val rfl (run_move (v := .bool _) rfl) ?_
        first | refine lw_val rfl (run_assign (v := .bool _) rfl) ?_
        refine lw_nil ?_
        refine cw_ret ?_
        refine res1 (v := .bool _) rfl rfl ?_
        exact ⟨_, rfl, rfl, hs⟩
      · intro h36
        have g36 := of_decide_eq_false h36
        refine lw_on rfl rfl h36 ?_
        first | refine lw_val rfl (run_move (v := .bool _) rfl) ?_
        refine lw_on rfl rfl h36 ?_
        refine lw_val rfl (run_not rfl) ?_
        first | refine lw_val rfl (run_pickF (v := .bool _) rfl h36 rfl) ?_
        refine lw_nil ?_
        refine cw_iff rfl (not_f (rfl)) ?_
        refine cw_skip ?_
        refine cw_seq ?_
        refine cw_region ?_
        refine lw_call rfl en17 (newd_sl hs (r := 1000) (by decide) (by decide)) ?_
        clear hs
        rintro _ w ⟨p, rfl, hs⟩
        first | refine lw_val rfl (run_move (v := .tuple _) rfl) ?_
        first | refine lw_val rfl (run_extract (v := .pointer (some _)) rfl rfl) ?_ | refine lw_val rfl (run_extract (v := .pointer none) rfl rfl) ?_
        first | refine lw_val rfl (run_extract (v := errV ad _) rfl rfl) ?_ | refine lw_val rfl (run_extract (v := .nilIface) rfl rfl) ?_
        first | refine lw_val rfl (run_assign (v := .pointer (some _)) rfl) ?_ | refine lw_val rfl (run_assign (v := .pointer none) rfl) ?_
        first | refine lw_val rfl (run_assign (v := errV ad _) rfl) ?_ | refine lw_val rfl (run_assign (v := .nilIface) rfl) ?_
        refine lw_nil ?_
        refine cw_seq ?_
        refine cw_seq ?_
        refine cw_region ?_
        first | refine lw_val rfl (run_move (v := .pointer (some _)) rfl) ?_ | refine lw_val rfl (run_move (v := .pointer none) rfl) ?_
        refine lw_val rfl (run_eqpn Tryd.underlying25 rfl rfl) ?_
        first | refine lw_val rfl (run_move (v := .bool _) rfl) ?_
        refine lw_on rfl rfl rfl ?_
        first | refine lw_val rfl (run_move (v := errV ad _) rfl) ?_ | refine lw_val rfl (run_move (v := .nilIface) rfl) ?_
        refine lw_on rfl rfl rfl ?_
        first | refine lw_val rfl (run_neerrn (ad := ad) rfl) ?_ | refine lw_val rfl (run_nenn rfl) ?_
        first | refine lw_val rfl (run_pickF (v := .bool _) rfl rfl rfl) ?_
        first | refine lw_val rfl (run_move (v := .bool _) rfl) ?_
        refine lw_on rfl rfl (rfl) ?_
        first | refine lw_val rfl (run_move (v := .pointer (some _)) rfl) ?_ | refine lw_val rfl (run_move (v := .pointer none) rfl) ?_
        refine lw_on rfl rfl (rfl) ?_
        refine lw_call rfl en18 (create_sl hE hs (by decide) (nm1 102) (k := 0) (d2 := oneD 1000 (nm1 102) [] [⟨nm1 102, ByteArray.empty, some 1⟩] 1 [] 0) (by kernel_rfl)) ?_
        clear hs
        rintro _ w ⟨rfl, hs⟩
        refine lw_on rfl rfl (rfl) ?_
        first | refine lw_val rfl (run_neerrn (ad := ad) rfl) ?_ | refine lw_val rfl (run_nenn rfl) ?_
        first | refine lw_val rfl (run_pickF (v := .bool _) rfl (rfl) rfl) ?_
        first | refine lw_val rfl (run_move (v := .bool _) rfl) ?_
        refine lw_on rfl rfl (rfl) ?_
        first | refine lw_val rfl (run_move (v := .pointer (some _)) rfl) ?_ | refine lw_val rfl (run_move (v := .pointer none) rfl) ?_
        refine lw_on rfl rfl (rfl) ?_
        refine lw_call rfl en28 (syncDir_sl hE hs (by decide) (k := 0) (d2 := oneD 1000 (nm1 102) [(nm1 102, 1)] [] 2 [] 0) (by kernel_rfl)) ?_
        clear hs
        rintro _ w ⟨rfl, hs⟩
        refine lw_on rfl rfl (rfl) ?_
        first | refine lw_val rfl (run_neerrn (ad := ad) rfl) ?_ | refine lw_val rfl (run_nenn rfl) ?_
        first | refine lw_val rfl (run_pickF (v := .bool _) rfl (rfl) rfl) ?_
        first | refine lw_val rfl (run_move (v := .bool _) rfl) ?_
        refine lw_on rfl rfl (rfl) ?_
        first | refine lw_val rfl (run_move (v := .pointer (some _)) rfl) ?_ | refine lw_val rfl (run_move (v := .pointer none) rfl) ?_
        refine lw_on rfl rfl (rfl) ?_
        first | refine lw_val rfl (run_move (v := .slice _ _ _) rfl) ?_
        refine lw_on rfl rfl (rfl) ?_
        refine lw_call rfl en19 (append_sl hE hs (by decide) (nm1 102) (x := lb) (k := 0) (d2 := oneD 1000 (nm1 102) [(nm1 102, 1)] [] 3 lb 0) (h1.rd _) rfl (by omega) (Dk.append_up (i := 1) rfl rfl rfl (by show 0 + lb.length ≤ 1000; omega))) ?_
        clear hs
        rintro _ w ⟨rfl, hs⟩
        refine lw_on rfl rfl (rfl) ?_
        first | refine lw_val rfl (run_neerrn (ad := ad) rfl) ?_ | refine lw_val rfl (run_nenn rfl) ?_
        first | refine lw_val rfl (run_pickF (v := .bool _) rfl (rfl) rfl) ?_
        refine lw_nil ?_
        refine cw_iff rfl (rfl) ?_
        refine cw_skip ?_
        refine cw_seq ?_
        refine cw_region ?_
        first | refine lw_val rfl (run_move (v := .int .i64 _) rfl) ?_
        first | refine lw_val rfl (run_move (v := .slice _ _ _) rfl) ?_
        refine lw_val rfl (run_lenS Tryd.underlying30 rfl) ?_
        refine lw_val rfl (run_add64 rfl rfl rfl (inI (by omega) (by omega))) ?_
        refine lw_call rfl en16 (number_sl hs n _ ⟨by omega, by omega⟩) ?_
        clear hs
        rintro _ w ⟨r, hr, rfl, hs⟩
        obtain ⟨z, hz⟩ : ∃ z : Int, (r : Int) - 1 = z := ⟨_, rfl⟩
        obtain ⟨kc, dc, hcut⟩ : ∃ kc dc, (oneD 1000 (nm1 102) [(nm1 102, 1)] [] 3 lb 0).cut (nm1 102) z = (kc, dc) := ⟨_, _, rfl⟩
        refine lw_val rfl (run_sub64 rfl rfl (c := z) hz (inI (by omega) (by omega))) ?_
        first | refine lw_val rfl (run_assign (v := .int .i64 _) rfl) ?_
        refine lw_nil ?_
        refine cw_seq ?_
        refine cw_region ?_
        first | refine lw_val rfl (run_move (v := .pointer (some _)) rfl) ?_ | refine lw_val rfl (run_move (v := .pointer none) rfl) ?_
        first | refine lw_val rfl (run_move (v := .int .i64 _) rfl) ?_
        refine lw_call rfl en36 (cut_sl hE hs (show 3 < 1000000 by decide) (nm1 102) (inI (by omega) (by omega)) hcut) ?_
        clear hs
        rintro _ w ⟨rfl, hs⟩
        first | refine lw_val rfl (run_assign (v := errV ad _) rfl) ?_ | refine lw_val rfl (run_assign (v := .nilIface) rfl) ?_
        refine lw_nil ?_
        refine cw_seq ?_
        refine cw_seq ?_
        refine cw_region ?_
        first | refine lw_val rfl (run_move (v := .int .i64 _) rfl) ?_
        refine lw_val rfl (run_lss rfl rfl) ?_
        first | refine lw_val rfl (run_move (v := .bool _) rfl) ?_
        refine lw_split (t := _) (d := 80) rfl ?_ ?_
        · intro h79
          have g79 := of_decide_eq_true h79
          rw [one_cut_bad _ _ _ _ _ _ _ (.inl g79)] at hcut
          cases hcut
          refine lw_off rfl rfl rfl h79 ?_
          refine lw_off rfl rfl rfl h79 ?_
          refine lw_off rfl rfl rfl h79 ?_
          refine lw_off rfl rfl rfl h79 ?_
          first | refine lw_val rfl (run_pickT (v := .bool _) rfl h79 rfl) ?_
          refine lw_nil ?_
          refine cw_ift rfl rfl ?_
          refine cw_seq ?_
          refine cw_region ?_
          first | refine lw_val rfl (run_move (v := .pointer (some _)) rfl) ?_ | refine lw_val rfl (run_move (v := .pointer none) rfl) ?_
          refine lw_call rfl en21 (len_sl hE hs (nm1 102) (one_lenR ..)) ?_
          clear hs
          rintro _ w ⟨rfl, hs⟩
          first | refine lw_val rfl (run_move (v := .tuple _) rfl) ?_
          first | refine lw_val rfl (run_extract (v := .int .i64 _) rfl rfl) ?_
          first | refine lw_val rfl (run_extract (v := errV ad _) rfl rfl) ?_ | refine lw_val rfl (run_extract (v := .nilIface) rfl rfl) ?_
          first | refine lw_val rfl (run_assign (v := .int .i64 _) rfl) ?_
          first | refine lw_val rfl (run_assign (v := errV ad _) rfl) ?_ | refine lw_val rfl (run_assign (v := .nilIface) rfl) ?_
          refine lw_nil ?_
          refine cw_seq ?_
          refine cw_region ?_
          first | refine lw_val rfl (run_move (v := errV ad _) rfl) ?_ | refine lw_val rfl (run_move (v := .nilIface) rfl) ?_
          refine lw_call rfl en20 (isA_sl hA hs (d := 105) (by decide) 105) ?_
          clear hs
          rintro _ w ⟨rfl, hs⟩
          first | refine lw_val rfl (run_move (v := .bool _) rfl) ?_
          refine lw_on rfl rfl (rfl) ?_
          first | refine lw_val rfl (run_move (v := .int .i64 _) rfl) ?_
          refine lw_on rfl rfl (rfl) ?_
          first | refine lw_val rfl (run_move (v := .slice _ _ _) rfl) ?_
          refine lw_on rfl rfl (rfl) ?_
          refine lw_val rfl (run_lenS Tryd.underlying30 rfl) ?_
          refine lw_on rfl rfl (rfl) ?_
          refine lw_val rfl (run_eqi rfl rfl) ?_
          first | refine lw_val rfl (run_pickT (v := .bool _) rfl (rfl) rfl) ?_
          first | refine lw_val rfl (run_assign (v := .bool _) rfl) ?_
          refine lw_nil ?_
          refine cw_ret ?_
          refine res1 (v := .bool _) rfl rfl ?_
          exact ⟨_, rfl, ret_b (decide_eq_true rfl), hs.nil⟩
        · intro h79
          have g79 := of_decide_eq_false h79
          refine lw_on rfl rfl h79 ?_
          first | refine lw_val rfl (run_move (v := .int .i64 _) rfl) ?_
          refine lw_on rfl rfl h79 ?_
          first | refine lw_val rfl (run_move (v := .slice _ _ _) rfl) ?_
          refine lw_on rfl rfl h79 ?_
          refine lw_val rfl (run_lenS Tryd.underlying30 rfl) ?_
          refine lw_on rfl rfl h79 ?_
          refine lw_val rfl (run_gtr rfl rfl) ?_
          first | refine lw_val rfl (run_pickF (v := .bool _) rfl h79 rfl) ?_
          refine lw_nil ?_
          refine cw_if rfl ?_ ?_
          · intro h84
            have g84 := of_decide_eq_true h84
            rw [one_cut_bad _ _ _ _ _ _ _ (.inr g84)] at hcut
            cases hcut
            refine cw_seq ?_
            refine cw_region ?_
            first | refine lw_val rfl (run_move (v := .pointer (some _)) rfl) ?_ | refine lw_val rfl (run_move (v := .pointer none) rfl) ?_
            refine lw_call rfl en21 (len_sl hE hs (nm1 102) (one_lenR ..)) ?_
            clear hs
            rintro _ w ⟨rfl, hs⟩
            first | refine lw_val rfl (run_move (v := .tuple _) rfl) ?_
            first | refine lw_val rfl (run_extract (v := .int .i64 _) rfl rfl) ?_
            first | refine lw_val rfl (run_extract (v := errV ad _) rfl rfl) ?_ | refine lw_val rfl (run_extract (v := .nilIface) rfl rfl) ?_
            first | refine lw_val rfl (run_assign (v := .int .i64 _) rfl) ?_
            first | refine lw_val rfl (run_assign (v := errV ad _) rfl) ?_ | refine lw_val rfl (run_assign (v := .nilIface) rfl) ?_
            refine lw_nil ?_
            refine cw_seq ?_
            refine cw_region ?_
            first | refine lw_val rfl (run_move (v := errV ad _) rfl) ?_ | refine lw_val rfl (run_move (v := .nilIface) rfl) ?_
            refine lw_call rfl en20 (isA_sl hA hs (d := 105) (by decide) 105) ?_
            clear hs
            rintro _ w ⟨rfl, hs⟩
            first | refine lw_val rfl (run_move (v := .bool _) rfl) ?_
            refine lw_on rfl rfl (rfl) ?_
            first | refine lw_val rfl (run_move (v := .int .i64 _) rfl) ?_
            refine lw_on rfl rfl (rfl) ?_
            first | refine lw_val rfl (run_move (v := .slice _ _ _) rfl) ?_
            refine lw_on rfl rfl (rfl) ?_
            refine lw_val rfl (run_lenS Tryd.underlying30 rfl) ?_
            refine lw_on rfl rfl (rfl) ?_
            refine lw_val rfl (run_eqi rfl rfl) ?_
            first | refine lw_val rfl (run_pickT (v := .bool _) rfl (rfl) rfl) ?_
            first | refine lw_val rfl (run_assign (v := .bool _) rfl) ?_
            refine lw_nil ?_
            refine cw_ret ?_
            refine res1 (v := .bool _) rfl rfl ?_
            exact ⟨_, rfl, ret_b (decide_eq_true rfl), hs.nil⟩
          · intro h84
            have g84 := of_decide_eq_false h84
            refine cw_skip ?_
            refine cw_seq ?_
            obtain ⟨q, rfl⟩ : ∃ q : Nat, z = (q : Int) := ⟨z.toNat, by omega⟩
            have hq : q ≤ lb.length := by omega
            rw [one_cut _ _ _ _ _ _ _ hq] at hcut
            cases hcut
            have hu : Dk.used (oneD 1000 (nm1 102) [(nm1 102, 1)] [] 4 (lb.take q) q) = q := by show (lb.take q).length + 0 = q; simp; omega
            obtain ⟨t, ht⟩ : ∃ t, q + pickN picks 1 ((lb.take q ++ lc).length - q) = t := ⟨_, rfl⟩
            have hpk := pickN_le picks 1 ((lb.take q ++ lc).length - q)
            have hll : (lb.take q ++ lc).length = q + lc.length := by simp; omega
            have htl : ((lb.take q ++ lc).take t).length = t := by rw [List.length_take]; omega
            refine cw_region ?_
            first | refine lw_val rfl (run_move (v := .pointer (some _)) rfl) ?_ | refine lw_val rfl (run_move (v := .pointer none) rfl) ?_
            refine lw_call rfl en35 (synced_sl hE hs (nm1 102) (one_synR ..)) ?_
            clear hs
            rintro _ w ⟨rfl, hs⟩
            first | refine lw_val rfl (run_move (v := .tuple _) rfl) ?_
            first | refine lw_val rfl (run_extract (v := .int .i64 _) rfl rfl) ?_
            first | refine lw_val rfl (run_extract (v := errV ad _) rfl rfl) ?_ | refine lw_val rfl (run_extract (v := .nilIface) rfl rfl) ?_
            first | refine lw_val rfl (run_assign (v := .int .i64 _) rfl) ?_
            first | refine lw_val rfl (run_assign (v := errV ad _) rfl) ?_ | refine lw_val rfl (run_assign (v := .nilIface) rfl) ?_
            refine lw_nil ?_
            refine cw_seq ?_
            refine cw_seq ?_
            refine cw_region ?_
            first | refine lw_val rfl (run_move (v := errV ad _) rfl) ?_ | refine lw_val rfl (run_move (v := .nilIface) rfl) ?_
            first | refine lw_val rfl (run_neerrn (ad := ad) rfl) ?_ | refine lw_val rfl (run_nenn rfl) ?_
            first | refine lw_val rfl (run_move (v := .bool _) rfl) ?_
            refine lw_on rfl rfl (rfl) ?_
            first | refine lw_val rfl (run_move (v := errV ad _) rfl) ?_ | refine lw_val rfl (run_move (v := .nilIface) rfl) ?_
            refine lw_on rfl rfl (rfl) ?_
            first | refine lw_val rfl (run_neerrn (ad := ad) rfl) ?_ | refine lw_val rfl (run_nenn rfl) ?_
            first | refine lw_val rfl (run_pickF (v := .bool _) rfl (rfl) rfl) ?_
            first | refine lw_val rfl (run_move (v := .bool _) rfl) ?_
            refine lw_on rfl rfl (rfl) ?_
            first | refine lw_val rfl (run_move (v := .int .i64 _) rfl) ?_
            refine lw_on rfl rfl (rfl) ?_
            first | refine lw_val rfl (run_move (v := .int .i64 _) rfl) ?_
            refine lw_on rfl rfl (rfl) ?_
            refine lw_val rfl (run_nei rfl rfl) ?_
            first | refine lw_val rfl (run_pickF (v := .bool _) rfl (rfl) rfl) ?_
            first | refine lw_val rfl (run_move (v := .bool _) rfl) ?_
            refine lw_on rfl rfl (by simp) ?_
            first | refine lw_val rfl (run_move (v := .pointer (some _)) rfl) ?_ | refine lw_val rfl (run_move (v := .pointer none) rfl) ?_
            refine lw_on rfl rfl (by simp) ?_
            refine lw_call rfl en23 (used_sl hs (show 4 < 1000000 by decide)) ?_
            clear hs
            rintro _ w ⟨rfl, hs⟩
            refine lw_on rfl rfl (by simp) ?_
            first | refine lw_val rfl (run_move (v := .int .i64 _) rfl) ?_
            refine lw_on rfl rfl (by simp) ?_
            refine lw_val rfl (run_nei rfl rfl) ?_
            first | refine lw_val rfl (run_pickF (v := .bool _) rfl (by simp) rfl) ?_
            first | refine lw_val rfl (run_move (v := .bool _) rfl) ?_
            refine lw_on rfl rfl (by rw [hu]; simp) ?_
            first | refine lw_val rfl (run_move (v := .pointer (some _)) rfl) ?_ | refine lw_val rfl (run_move (v := .pointer none) rfl) ?_
            refine lw_on rfl rfl (by rw [hu]; simp) ?_
            first | refine lw_val rfl (run_move (v := .slice _ _ _) rfl) ?_
            refine lw_on rfl rfl (by rw [hu]; simp) ?_
            refine lw_call rfl en19 (append_sl hE hs (show 4 < 1000000 by decide) (nm1 102) (x := lc) (k := 0) (d2 := oneD 1000 (nm1 102) [(nm1 102, 1)] [] 5 (lb.take q ++ lc) q) (h2.rd _) rfl (by omega) (Dk.append_up (i := 1) rfl rfl rfl (by rw [hu]; show q + lc.length ≤ 1000; omega))) ?_
            clear hs
            rintro _ w ⟨rfl, hs⟩
            refine lw_on rfl rfl (by rw [hu]; simp) ?_
            first | refine lw_val rfl (run_neerrn (ad := ad) rfl) ?_ | refine lw_val rfl (run_nenn rfl) ?_
            first | refine lw_val rfl (run_pickF (v := .bool _) rfl (by rw [hu]; simp) rfl) ?_
            refine lw_nil ?_
            refine cw_iff rfl (rfl) ?_
            refine cw_skip ?_
            refine cw_seq ?_
            refine cw_region ?_
            first | refine lw_val rfl (run_move (v := .pointer (some _)) rfl) ?_ | refine lw_val rfl (run_move (v := .pointer none) rfl) ?_
            first | refine lw_val rfl (run_move (v := .slice _ _ _) rfl) ?_
            refine lw_call rfl en33 (crash_sl hs (show 5 < 1000000 by decide) (picks := picks) (h4.rd _) rfl (by omega)) ?_
            clear hs
            rintro _ w ⟨rfl, hs⟩
            refine lw_nil ?_
            rw [crash_one picks 1000 5 q 0 false (nm1 102) (lb.take q ++ lc) ht] at hs
            refine cw_seq ?_
            refine cw_region ?_
            first | refine lw_val rfl (run_move (v := .pointer (some _)) rfl) ?_ | refine lw_val rfl (run_move (v := .pointer none) rfl) ?_
            refine lw_call rfl en21 (len_sl hE hs (nm1 102) (m := t) (by rw [one_lenR, htl])) ?_
            clear hs
            rintro _ w ⟨rfl, hs⟩
            first | refine lw_val rfl (run_move (v := .tuple _) rfl) ?_
            first | refine lw_val rfl (run_extract (v := .int .i64 _) rfl rfl) ?_
            first | refine lw_val rfl (run_extract (v := errV ad _) rfl rfl) ?_ | refine lw_val rfl (run_extract (v := .nilIface) rfl rfl) ?_
            first | refine lw_val rfl (run_assign (v := .int .i64 _) rfl) ?_
            first | refine lw_val rfl (run_assign (v := errV ad _) rfl) ?_ | refine lw_val rfl (run_assign (v := .nilIface) rfl) ?_
            refine lw_nil ?_
            refine cw_seq ?_
            refine cw_seq ?_
            refine cw_region ?_
            first | refine lw_val rfl (run_move (v := errV ad _) rfl) ?_ | refine lw_val rfl (run_move (v := .nilIface) rfl) ?_
            first | refine lw_val rfl (run_neerrn (ad := ad) rfl) ?_ | refine lw_val rfl (run_nenn rfl) ?_
            first | refine lw_val rfl (run_move (v := .bool _) rfl) ?_
            refine lw_on rfl rfl (rfl) ?_
            first | refine lw_val rfl (run_move (v := .int .i64 _) rfl) ?_
            refine lw_on rfl rfl (rfl) ?_
            first | refine lw_val rfl (run_move (v := .int .i64 _) rfl) ?_
            refine lw_on rfl rfl (rfl) ?_
            refine lw_val rfl (run_lss rfl rfl) ?_
            first | refine lw_val rfl (run_pickF (v := .bool _) rfl (rfl) rfl) ?_
            first | refine lw_val rfl (run_move (v := .bool _) rfl) ?_
            refine lw_on rfl rfl (decide_eq_false (by omega)) ?_
            first | refine lw_val rfl (run_move (v := .int .i64 _) rfl) ?_
            refine lw_on rfl rfl (decide_eq_false (by omega)) ?_
            first | refine lw_val rfl (run_move (v := .int .i64 _) rfl) ?_
            refine lw_on rfl rfl (decide_eq_false (by omega)) ?_
            first | refine lw_val rfl (run_move (v := .slice _ _ _) rfl) ?_
            refine lw_on rfl rfl (decide_eq_false (by omega)) ?_
            refine lw_val rfl (run_lenS Tryd.underlying30 rfl) ?_
            refine lw_on rfl rfl (decide_eq_false (by omega)) ?_
            refine lw_val rfl (run_add64 rfl rfl rfl (inI (by omega) (by omega))) ?_
            refine lw_on rfl rfl (decide_eq_false (by omega)) ?_
            refine lw_val rfl (run_gtr rfl rfl) ?_
            first | refine lw_val rfl (run_pickF (v := .bool _) rfl (decide_eq_false (by omega)) rfl) ?_
            refine lw_nil ?_
            refine cw_iff rfl (decide_eq_false (by omega)) ?_
            refine cw_skip ?_
            refine cw_seq ?_
            refine cw_region ?_
            first | refine lw_val rfl (run_move (v := .pointer (some _)) rfl) ?_ | refine lw_val rfl (run_move (v := .pointer none) rfl) ?_
            first | refine lw_val rfl (run_move (v := .int .i64 _) rfl) ?_
            refine lw_call rfl en32 (read_sl hE hs (nm1 102) (off := 0) (m := t) (inI (by decide) (by decide)) (inI (by omega) (by omega)) (k := 0) (l := (lb.take q ++ lc).take t) ((Dk.readR_at (o := 0) (m := t) rfl (one_names ..) rfl (by show 0 + t ≤ ((lb.take q ++ lc).take t).length; omega)).trans (by simp [List.take_take]))) ?_
            clear hs
            rintro _ w ⟨ar, cr, rfl, hs⟩
            first | refine lw_val rfl (run_move (v := .tuple _) rfl) ?_
            first | refine lw_val rfl (run_extract (v := .slice _ _ _) rfl rfl) ?_
            first | refine lw_val rfl (run_extract (v := errV ad _) rfl rfl) ?_ | refine lw_val rfl (run_extract (v := .nilIface) rfl rfl) ?_
            first | refine lw_val rfl (run_assign (v := .slice _ _ _) rfl) ?_
            first | refine lw_val rfl (run_assign (v := errV ad _) rfl) ?_ | refine lw_val rfl (run_assign (v := .nilIface) rfl) ?_
            refine lw_nil ?_
            refine cw_seq ?_
            refine cw_region ?_
            first | refine lw_val rfl (run_move (v := .slice _ _ _) rfl) ?_
            first | refine lw_val rfl (run_move (v := .int .i64 _) rfl) ?_
            refine lw_val rfl (run_sliceTo Tryd.underlying30 sz5 rfl rfl (hi := q) rfl (by omega)) ?_
            refine lw_call rfl en37 (bcopy_sl hs (l := (lb.take q).drop 0) ((h1.rd _).subB (by omega) (by omega)) (by simp; omega) (by simp; omega)) ?_
            clear hs
            rintro _ w ⟨ab, cb, rfl, hs⟩
            first | refine lw_val rfl (run_move (v := .slice _ _ _) rfl) ?_
            refine lw_append hs rfl 0 rfl Tryd.underlying30 in5 rfl rfl rfl (src_of_seq (P := Tryd.prog) Tryd.underlying30 ((h2.rd _).seq hs) (bytesL_one lc)) (by simp only [bytesL_len, List.length_drop, List.length_take]; omega) (by simp only [bytesL_len, List.length_drop, List.length_take]; omega) ?_
            clear hs
            intro a161 c161 w hs
            simp only [List.set_cons_succ, List.set_cons_zero] at hs
            rw [← bytesL_app] at hs
            simp only [List.drop_zero] at hs
            obtain ⟨hl1, hl2, _⟩ := hs.ownForm 0 rfl
            simp only [bytesL_len, List.length_take] at hl2
            first | refine lw_val rfl (run_assign (v := .slice _ _ _) rfl) ?_
            refine lw_nil ?_
            refine cw_seq ?_
            refine cw_region ?_
            first | refine lw_val rfl (run_move (v := errV ad _) rfl) ?_ | refine lw_val rfl (run_move (v := .nilIface) rfl) ?_
            first | refine lw_val rfl (run_eqerrn (ad := ad) rfl) ?_ | refine lw_val rfl (run_eqnn rfl) ?_
            first | refine lw_val rfl (run_move (v := .bool _) rfl) ?_
            refine lw_on rfl rfl (rfl) ?_
            first | refine lw_val rfl (run_move (v := .slice _ _ _) rfl) ?_
            refine lw_on rfl rfl (rfl) ?_
            first | refine lw_val rfl (run_move (v := .slice _ _ _) rfl) ?_
            refine lw_on rfl rfl (rfl) ?_
            first | refine lw_val rfl (run_move (v := .int .i64 _) rfl) ?_
            refine lw_on rfl rfl (rfl) ?_
            refine lw_val rfl (run_sliceTo Tryd.underlying30 sz5 rfl rfl (hi := t) rfl (by omega)) ?_
            refine lw_on rfl rfl (rfl) ?_
            refine lw_call rfl en27 (sameB_sl hs (la := (lb.take q ++ lc).take t) (lb := ((lb.take q ++ lc).take t).drop 0) (hs.rdOwn 1 rfl) ((hs.rdOwn 0 rfl).subB (by omega) (by simp only [bytesL_len, List.length_take]; omega)) rfl (by simp; omega) (by simp; omega)) ?_
            clear hs
            rintro _ w ⟨rfl, hs⟩
            first | refine lw_val rfl (run_pickT (v := .bool _) rfl (rfl) rfl) ?_
            first | refine lw_val rfl (run_assign (v := .bool _) rfl) ?_
            refine lw_nil ?_
            refine cw_ret ?_
            refine res1 (v := .bool _) rfl rfl ?_
            exact ⟨_, rfl, ret_b (decide_eq_true rfl), hs.nil⟩
end Go.Proofs.YthlnkniocklegaaDoor
