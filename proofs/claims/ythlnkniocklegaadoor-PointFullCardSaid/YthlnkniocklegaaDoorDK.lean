/- The law DiskKeeps: what was synced, under a name that was synced, is there behind any crash. -/
import Derived.Test.YthlnkniocklegaaDoorDf
namespace Go.Proofs.YthlnkniocklegaaDoor
set_option linter.all false
open Go.RowKit
attribute [local irreducible] errV
variable {g w : World} {L M : List HP} {ad : Nat → Addr} {p : Nat} {d : Dk}

theorem Dk.readR_at {n : ByteArray} {i o m : Nat} {F : Fl} (h1 : d.down = false) (hn : aget d.names n = some i) (hf : aget d.fs i = some F) (hl : o + m ≤ F.b.length) : d.readR n o m = (0, (F.b.take (o + m)).drop o) := by
  have e : d.fl i = F := by simp [Dk.fl, hf]
  simp only [Dk.readR, Dk.file, h1, hn, Bool.false_eq_true, if_false, e]
  rw [if_neg (by omega)]
  simp
abbrev kD (names kept : List (ByteArray × Nat)) (ch : List Chg) (files calls : Nat) (fs : List (Nat × Fl)) : Dk := ⟨2000, names, kept, ch, files, 0, false, calls, fs⟩
abbrev chG : Chg := ⟨nm1 103, ByteArray.empty, some 2⟩
theorem keeps_crash (la lb lc : List UInt8) (picks : List Int) : ∃ m kg mg : Nat, la.length ≤ m ∧ m ≤ la.length + lb.length ∧ (kg = 0 ∧ mg = lc.length ∨ kg = 107 ∧ mg = 0) ∧
    Dk.lenR (nm1 102) ((kD [(nm1 102, 1), (nm1 103, 2)] [(nm1 102, 1)] [chG] 2 8 [(1, ⟨1, la ++ lb, la.length⟩), (2, ⟨2, lc, lc.length⟩)]).crash picks) = (0, m) ∧
    Dk.readR (nm1 102) 0 (m : Int) ((kD [(nm1 102, 1), (nm1 103, 2)] [(nm1 102, 1)] [chG] 2 8 [(1, ⟨1, la ++ lb, la.length⟩), (2, ⟨2, lc, lc.length⟩)]).crash picks) = (0, (la ++ lb).take m) ∧
    Dk.synR (nm1 102) ((kD [(nm1 102, 1), (nm1 103, 2)] [(nm1 102, 1)] [chG] 2 8 [(1, ⟨1, la ++ lb, la.length⟩), (2, ⟨2, lc, lc.length⟩)]).crash picks) = (0, m) ∧
    Dk.lenR (nm1 103) ((kD [(nm1 102, 1), (nm1 103, 2)] [(nm1 102, 1)] [chG] 2 8 [(1, ⟨1, la ++ lb, la.length⟩), (2, ⟨2, lc, lc.length⟩)]).crash picks) = (kg, mg) := by
  have hp := pickN_le picks 1 ((la ++ lb).length - la.length)
  obtain ⟨t, ht⟩ : ∃ t, t = la.length + pickN picks 1 ((la ++ lb).length - la.length) := ⟨_, rfl⟩
  simp only [List.length_append] at hp ht
  have htl : t ≤ la.length + lb.length := by omega
  have hlen : ((la ++ lb).take t).length = t := by simp; omega
  have h0 := pickN_le picks 0 1
  have hlc : (lc.take (lc.length + pickN picks 2 (lc.length - lc.length))).length = lc.length := by simp
  rcases Nat.lt_or_ge (pickN picks 0 1) 1 with h | h
  · have e : (kD [(nm1 102, 1), (nm1 103, 2)] [(nm1 102, 1)] [chG] 2 8 [(1, ⟨1, la ++ lb, la.length⟩), (2, ⟨2, lc, lc.length⟩)]).crash picks = kD [(nm1 102, 1)] [(nm1 102, 1)] [] 2 8 [(1, ⟨1, (la ++ lb).take t, ((la ++ lb).take t).length⟩), (2, ⟨2, lc, lc.length⟩)] := by
      unfold Dk.crash
      rw [show pickN picks 0 (List.length _) = 0 from (by show pickN picks 0 1 = 0; omega), ht, ← List.length_append]
      rfl
    rw [e]
    refine ⟨t, 107, 0, by omega, htl, .inr ⟨rfl, rfl⟩, ?_, ?_, ?_, rfl⟩
    · rw [show (0, t) = (0, ((la ++ lb).take t).length) by rw [hlen]]; rfl
    · exact (Dk.readR_at (d := kD [(nm1 102, 1)] [(nm1 102, 1)] [] 2 8 [(1, ⟨1, (la ++ lb).take t, ((la ++ lb).take t).length⟩), (2, ⟨2, lc, lc.length⟩)]) (n := nm1 102) (o := 0) (m := t) rfl rfl rfl (by show 0 + t ≤ ((la ++ lb).take t).length; omega)).trans (by simp [List.take_take])
    · rw [show (0, t) = (0, ((la ++ lb).take t).length) by rw [hlen]]; rfl
  · have e : (kD [(nm1 102, 1), (nm1 103, 2)] [(nm1 102, 1)] [chG] 2 8 [(1, ⟨1, la ++ lb, la.length⟩), (2, ⟨2, lc, lc.length⟩)]).crash picks = kD [(nm1 102, 1), (nm1 103, 2)] [(nm1 102, 1), (nm1 103, 2)] [] 2 8 [(1, ⟨1, (la ++ lb).take t, ((la ++ lb).take t).length⟩), (2, ⟨2, lc.take (lc.length + pickN picks 2 (lc.length - lc.length)), (lc.take (lc.length + pickN picks 2 (lc.length - lc.length))).length⟩)] := by
      unfold Dk.crash
      rw [show pickN picks 0 (List.length _) = 1 from (by show pickN picks 0 1 = 1; omega), ht, ← List.length_append]
      rfl
    rw [e]
    refine ⟨t, 0, lc.length, by omega, htl, .inl ⟨rfl, rfl⟩, ?_, ?_, ?_, ?_⟩
    · rw [show (0, t) = (0, ((la ++ lb).take t).length) by rw [hlen]]; rfl
    · exact (Dk.readR_at (d := kD [(nm1 102, 1), (nm1 103, 2)] [(nm1 102, 1), (nm1 103, 2)] [] 2 8 [(1, ⟨1, (la ++ lb).take t, ((la ++ lb).take t).length⟩), (2, ⟨2, lc.take (lc.length + pickN picks 2 (lc.length - lc.length)), (lc.take (lc.length + pickN picks 2 (lc.length - lc.length))).length⟩)]) (n := nm1 102) (o := 0) (m := t) rfl rfl rfl (by show 0 + t ≤ ((la ++ lb).take t).length; omega)).trans (by simp [List.take_take])
    · rw [show (0, t) = (0, ((la ++ lb).take t).length) by rw [hlen]]; rfl
    · rw [show (0, lc.length) = (0, (lc.take (lc.length + pickN picks 2 (lc.length - lc.length))).length) by rw [hlc]]; rfl
set_option maxRecDepth 100000 in
theorem diskKeeps_sl (hA : ErrA ad g) (hs : Mem g w []) {a1 a2 a3 a4 : Option Addr} {n1 n2 n3 n4 c1 c2 c3 c4 : Nat} {la lb lc : List UInt8} {picks : List Int} (h1 : Came g (.slice a1 n1 c1) (bytesL la)) (h2 : Came g (.slice a2 n2 c2) (bytesL lb)) (h3 : Came g (.slice a3 n3 c3) (bytesL lc)) (h4 : Came g (.slice a4 n4 c4) (intsL picks))
    (e1 : n1 = la.length) (e2 : n2 = lb.length) (e3 : n3 = lc.length) (e4 : n4 = picks.length) : Calls Tryd.prog 6 #[.slice a1 n1 c1, .slice a2 n2 c2, .slice a3 n3 c3, .slice a4 n4 c4] w (Ret fun v w' => v = .bool true ∧ Mem g w' []) := by
  subst e1 e2 e3 e4
  have hE := hA.disk
  obtain ⟨m, kg, mg, hm1, hm2, hg, f1, f2, f3, f4⟩ := keeps_crash la lb lc picks
  refine calls_cw Tryd.func6 rfl rfl ?_
  skip
  refine cw_seq ?_
  refine cw_region ?_
  first | refine lw_val rfl (run_assign (v := .bool _) rfl) ?_
  refine lw_nil ?_
  refine cw_seq ?_
  refine cw_region ?_
  refine lw_call rfl en15 (first4_sl hE hs) ?_
  clear hs
  rintro _ w ⟨rfl, hs⟩
  first | refine lw_val rfl (run_assign (v := .bool _) rfl) ?_
  refine lw_nil ?_
  refine cw_seq ?_
  refine cw_seq ?_
  refine cw_region ?_
  first | refine lw_val rfl (run_move (v := .bool _) rfl) ?_
  refine lw_val rfl (run_not rfl) ?_
  refine lw_nil ?_
  refine cw_iff rfl (not_f (rfl)) ?_
  refine cw_skip ?_
  refine cw_seq ?_
  refine cw_seq ?_
  refine cw_region ?_
  first | refine lw_val rfl (run_move (v := .slice _ _ _) rfl) ?_
  refine lw_val rfl (run_lenS Tryd.underlying30 rfl) ?_
  refine lw_val rfl (run_gtr rfl rfl) ?_
  first | refine lw_val rfl (run_move (v := .bool _) rfl) ?_
  refine lw_split (t := _) (d := 27) rfl ?_ ?_
  · intro h26
    have g26 := of_decide_eq_true h26
    refine lw_off rfl rfl rfl h26 ?_
    refine lw_off rfl rfl rfl h26 ?_
    refine lw_off rfl rfl rfl h26 ?_
    first | refine lw_val rfl (run_pickT (v := .bool _) rfl h26 rfl) ?_
    first | refine lw_val rfl (run_move (v := .bool _) rfl) ?_
    refine lw_off rfl rfl rfl rfl ?_
    refine lw_off rfl rfl rfl rfl ?_
    refine lw_off rfl rfl rfl rfl ?_
    first | refine lw_val rfl (run_pickT (v := .bool _) rfl rfl rfl) ?_
    first | refine lw_val rfl (run_move (v := .bool _) rfl) ?_
    refine lw_off rfl rfl rfl rfl ?_
    refine lw_off rfl rfl rfl rfl ?_
    refine lw_off rfl rfl rfl rfl ?_
    first | refine lw_val rfl (run_pickT (v := .bool _) rfl rfl rfl) ?_
    first | refine lw_val rfl (run_move (v := .bool _) rfl) ?_
    refine lw_off rfl rfl rfl rfl ?_
    refine lw_off rfl rfl rfl rfl ?_
    first | refine lw_val rfl (run_pickT (v := .bool _) rfl rfl rfl) ?_
    refine lw_nil ?_
    refine cw_ift rfl rfl ?_
    refine cw_seq ?_
    refine cw_region ?_
    first | refine lw_val rfl (run_move (v := .bool _) rfl) ?_
    first | refine lw_val rfl (run_assign (v := .bool _) rfl) ?_
    refine lw_nil ?_
    refine cw_ret ?_
    refine res1 (v := .bool _) rfl rfl ?_
    exact ⟨_, rfl, rfl, hs⟩
  · intro h26
    have g26 := of_decide_eq_false h26
    refine lw_on rfl rfl h26 ?_
    first | refine lw_val rfl (run_move (v := .slice _ _ _) rfl) ?_
    refine lw_on rfl rfl h26 ?_
    refine lw_val rfl (run_lenS Tryd.underlying30 rfl) ?_
    refine lw_on rfl rfl h26 ?_
    refine lw_val rfl (run_gtr rfl rfl) ?_
    first | refine lw_val rfl (run_pickF (v := .bool _) rfl h26 rfl) ?_
    first | refine lw_val rfl (run_move (v := .bool _) rfl) ?_
    refine lw_split (t := _) (d := 32) rfl ?_ ?_
    · intro h30
      have g30 := of_decide_eq_true h30
      refine lw_off rfl rfl rfl h30 ?_
      refine lw_off rfl rfl rfl h30 ?_
      refine lw_off rfl rfl rfl h30 ?_
      first | refine lw_val rfl (run_pickT (v := .bool _) rfl h30 rfl) ?_
      first | refine lw_val rfl (run_move (v := .bool _) rfl) ?_
      refine lw_off rfl rfl rfl rfl ?_
      refine lw_off rfl rfl rfl rfl ?_
      refine lw_off rfl rfl rfl rfl ?_
      first | refine lw_val rfl (run_pickT (v := .bool _) rfl rfl rfl) ?_
      first | refine lw_val rfl (run_move (v := .bool _) rfl) ?_
      refine lw_off rfl rfl rfl rfl ?_
      refine lw_off rfl rfl rfl rfl ?_
      first | refine lw_val rfl (run_pickT (v := .bool _) rfl rfl rfl) ?_
      refine lw_nil ?_
      refine cw_ift rfl rfl ?_
      refine cw_seq ?_
      refine cw_region ?_
      first | refine lw_val rfl (run_move (v := .bool _) rfl) ?_
      first | refine lw_val rfl (run_assign (v := .bool _) rfl) ?_
      refine lw_nil ?_
      refine cw_ret ?_
      refine res1 (v := .bool _) rfl rfl ?_
      exact ⟨_, rfl, rfl, hs⟩
    · intro h30
      have g30 := of_decide_eq_false h30
      refine lw_on rfl rfl h30 ?_
      first | refine lw_val rfl (run_move (v := .slice _ _ _) rfl) ?_
      refine lw_on rfl rfl h30 ?_
      refine lw_val rfl (run_lenS Tryd.underlying30 rfl) ?_
      refine lw_on rfl rfl h30 ?_
      refine lw_val rfl (run_gtr rfl rfl) ?_
      first | refine lw_val rfl (run_pickF (v := .bool _) rfl h30 rfl) ?_
      first | refine lw_val rfl (run_move (v := .bool _) rfl) ?_
      refine lw_split (t := _) (d := 37) rfl ?_ ?_
      · intro h35
        have g35 := of_decide_eq_true h35
        refine lw_off rfl rfl rfl h35 ?_
        refine lw_off rfl rfl rfl h35 ?_
        refine lw_off rfl rfl rfl h35 ?_
        first | refine lw_val rfl (run_pickT (v := .bool _) rfl h35 rfl) ?_
        first | refine lw_val rfl (run_move (v := .bool _) rfl) ?_
        refine lw_off rfl rfl rfl rfl ?_
        refine lw_off rfl rfl rfl rfl ?_
        first | refine lw_val rfl (run_pickT (v := .bool _) rfl rfl rfl) ?_
        refine lw_nil ?_
        refine cw_ift rfl rfl ?_
        refine cw_seq ?_
        refine cw_region ?_
        first | refine lw_val rfl (run_move (v := .bool _) rfl) ?_
        first | refine lw_val rfl (run_assign (v := .bool _) rfl) ?_
        refine lw_nil ?_
        refine cw_ret ?_
        refine res1 (v := .bool _) rfl rfl ?_
        exact ⟨_, rfl, rfl, hs⟩
      · intro h35
        have g35 := of_decide_eq_false h35
        refine lw_on rfl rfl h35 ?_
        first | refine lw_val rfl (run_move (v := .slice _ _ _) rfl) ?_
        refine lw_on rfl rfl h35 ?_
        refine lw_val rfl (run_lenS Tryd.underlying22 rfl) ?_
        refine lw_on rfl rfl h35 ?_
        refine lw_val rfl (run_gtr rfl rfl) ?_
        first | refine lw_val rfl (run_pickF (v := .bool _) rfl h35 rfl) ?_
        first | refine lw_val rfl (run_move (v := .bool _) rfl) ?_
        refine lw_split (t := _) (d := 42) rfl ?_ ?_
        · intro h40
          have g40 := of_decide_eq_true h40
          refine lw_off rfl rfl rfl h40 ?_
          refine lw_off rfl rfl rfl h40 ?_
          first | refine lw_val rfl (run_pickT (v := .bool _) rfl h40 rfl) ?_
          refine lw_nil ?_
          refine cw_ift rfl rfl ?_
          refine cw_seq ?_
          refine cw_region ?_
          first | refine lw_val rfl (run_move (v := .bool _) rfl) ?_
          first | refine lw_val rfl (run_assign (v := .bool _) rfl) ?_
          refine lw_nil ?_
          refine cw_ret ?_
          refine res1 (v := .bool _) rfl rfl ?_
          exact ⟨_, rfl, rfl, hs⟩
        · intro h40
          have g40 := of_decide_eq_false h40
          refine lw_on rfl rfl h40 ?_
          first | refine lw_val rfl (run_move (v := .bool _) rfl) ?_
          refine lw_on rfl rfl h40 ?_
          refine lw_val rfl (run_not rfl) ?_
          first | refine lw_val rfl (run_pickF (v := .bool _) rfl h40 rfl) ?_
          refine lw_nil ?_
          refine cw_iff rfl (not_f (rfl)) ?_
          refine cw_skip ?_
          refine cw_seq ?_
          refine cw_region ?_
          refine lw_call rfl en17 (newd_sl hs (r := 2000) (by decide) (by decide)) ?_
          clear hs
          rintro _ w ⟨p, rfl, hs⟩
          first | refine lw_val rfl (run_move (v := .tuple _) rfl) ?_
          first | refine lw_val rfl (run_extract (v := .pointer (some _)) rfl rfl) ?_ | refine lw_val rfl (run_extract (v := .pointer none) rfl rfl) ?_
          first | refine lw_val rfl (run_extract (v := errV ad _) rfl rfl) ?_ | refine lw_val rfl (run_extract (v := .nilIface) rfl rfl) ?_
          first | refine lw_val rfl (run_assign (v := .pointer (some _)) rfl) ?_ | refine lw_val rfl (run_assign (v := .pointer none) rfl) ?_
          first | refine lw_val rfl (run_assign (v := errV ad _) rfl) ?_ | refine lw_val rfl (run_assign (v := .nilIface) rfl) ?_
          refine lw_nil ?_
          refine cw_seq ?_
          refine cw_seq ?_
          refine cw_region ?_
          first | refine lw_val rfl (run_move (v := .pointer (some _)) rfl) ?_ | refine lw_val rfl (run_move (v := .pointer none) rfl) ?_
          refine lw_val rfl (run_eqpn Tryd.underlying25 rfl rfl) ?_
          first | refine lw_val rfl (run_move (v := .bool _) rfl) ?_
          refine lw_on rfl rfl rfl ?_
          first | refine lw_val rfl (run_move (v := errV ad _) rfl) ?_ | refine lw_val rfl (run_move (v := .nilIface) rfl) ?_
          refine lw_on rfl rfl rfl ?_
          first | refine lw_val rfl (run_neerrn (ad := ad) rfl) ?_ | refine lw_val rfl (run_nenn rfl) ?_
          first | refine lw_val rfl (run_pickF (v := .bool _) rfl rfl rfl) ?_
          first | refine lw_val rfl (run_move (v := .bool _) rfl) ?_
          refine lw_on rfl rfl (rfl) ?_
          first | refine lw_val rfl (run_move (v := .pointer (some _)) rfl) ?_ | refine lw_val rfl (run_move (v := .pointer none) rfl) ?_
          refine lw_on rfl rfl (rfl) ?_
          refine lw_call rfl en18 (create_sl hE hs (by decide) (nm1 102) (k := 0) (d2 := kD [(nm1 102, 1)] [] [⟨nm1 102, ByteArray.empty, some 1⟩] 1 1 [(1, ⟨1, [], 0⟩)]) (by kernel_rfl)) ?_
          clear hs
          rintro _ w ⟨rfl, hs⟩
          refine lw_on rfl rfl (rfl) ?_
          first | refine lw_val rfl (run_neerrn (ad := ad) rfl) ?_ | refine lw_val rfl (run_nenn rfl) ?_
          first | refine lw_val rfl (run_pickF (v := .bool _) rfl (rfl) rfl) ?_
          first | refine lw_val rfl (run_move (v := .bool _) rfl) ?_
          refine lw_on rfl rfl (rfl) ?_
          first | refine lw_val rfl (run_move (v := .pointer (some _)) rfl) ?_ | refine lw_val rfl (run_move (v := .pointer none) rfl) ?_
          refine lw_on rfl rfl (rfl) ?_
          refine lw_call rfl en28 (syncDir_sl hE hs (by decide) (k := 0) (d2 := kD [(nm1 102, 1)] [(nm1 102, 1)] [] 1 2 [(1, ⟨1, [], 0⟩)]) (by kernel_rfl)) ?_
          clear hs
          rintro _ w ⟨rfl, hs⟩
          refine lw_on rfl rfl (rfl) ?_
          first | refine lw_val rfl (run_neerrn (ad := ad) rfl) ?_ | refine lw_val rfl (run_nenn rfl) ?_
          first | refine lw_val rfl (run_pickF (v := .bool _) rfl (rfl) rfl) ?_
          first | refine lw_val rfl (run_move (v := .bool _) rfl) ?_
          refine lw_on rfl rfl (rfl) ?_
          first | refine lw_val rfl (run_move (v := .pointer (some _)) rfl) ?_ | refine lw_val rfl (run_move (v := .pointer none) rfl) ?_
          refine lw_on rfl rfl (rfl) ?_
          first | refine lw_val rfl (run_move (v := .slice _ _ _) rfl) ?_
          refine lw_on rfl rfl (rfl) ?_
          refine lw_call rfl en19 (append_sl hE hs (by decide) (nm1 102) (x := la) (k := 0) (d2 := kD [(nm1 102, 1)] [(nm1 102, 1)] [] 1 3 [(1, ⟨1, la, 0⟩)]) (h1.rd _) rfl (by omega) (Dk.append_up (i := 1) rfl rfl rfl (by show 0 + la.length ≤ 2000; omega))) ?_
          clear hs
          rintro _ w ⟨rfl, hs⟩
          refine lw_on rfl rfl (rfl) ?_
          first | refine lw_val rfl (run_neerrn (ad := ad) rfl) ?_ | refine lw_val rfl (run_nenn rfl) ?_
          first | refine lw_val rfl (run_pickF (v := .bool _) rfl (rfl) rfl) ?_
          first | refine lw_val rfl (run_move (v := .bool _) rfl) ?_
          refine lw_on rfl rfl (rfl) ?_
          first | refine lw_val rfl (run_move (v := .pointer (some _)) rfl) ?_ | refine lw_val rfl (run_move (v := .pointer none) rfl) ?_
          refine lw_on rfl rfl (rfl) ?_
          refine lw_call rfl en34 (sync_sl hE hs (show 3 < 1000000 by decide) (nm1 102) (k := 0) (d2 := kD [(nm1 102, 1)] [(nm1 102, 1)] [] 1 4 [(1, ⟨1, la, la.length⟩)]) (Dk.sync_up (i := 1) rfl rfl rfl)) ?_
          clear hs
          rintro _ w ⟨rfl, hs⟩
          refine lw_on rfl rfl (rfl) ?_
          first | refine lw_val rfl (run_neerrn (ad := ad) rfl) ?_ | refine lw_val rfl (run_nenn rfl) ?_
          first | refine lw_val rfl (run_pickF (v := .bool _) rfl (rfl) rfl) ?_
          first | refine lw_val rfl (run_move (v := .bool _) rfl) ?_
          refine lw_on rfl rfl (rfl) ?_
          first | refine lw_val rfl (run_move (v := .pointer (some _)) rfl) ?_ | refine lw_val rfl (run_move (v := .pointer none) rfl) ?_
          refine lw_on rfl rfl (rfl) ?_
          first | refine lw_val rfl (run_move (v := .slice _ _ _) rfl) ?_
          refine lw_on rfl rfl (rfl) ?_
          refine lw_call rfl en19 (append_sl hE hs (show 4 < 1000000 by decide) (nm1 102) (x := lb) (k := 0) (d2 := kD [(nm1 102, 1)] [(nm1 102, 1)] [] 1 5 [(1, ⟨1, la ++ lb, la.length⟩)]) (h2.rd _) rfl (by omega) (Dk.append_up (i := 1) rfl rfl rfl (by show la.length + 0 + lb.length ≤ 2000; omega))) ?_
          clear hs
          rintro _ w ⟨rfl, hs⟩
          refine lw_on rfl rfl (rfl) ?_
          first | refine lw_val rfl (run_neerrn (ad := ad) rfl) ?_ | refine lw_val rfl (run_nenn rfl) ?_
          first | refine lw_val rfl (run_pickF (v := .bool _) rfl (rfl) rfl) ?_
          first | refine lw_val rfl (run_move (v := .bool _) rfl) ?_
          refine lw_on rfl rfl (rfl) ?_
          first | refine lw_val rfl (run_move (v := .pointer (some _)) rfl) ?_ | refine lw_val rfl (run_move (v := .pointer none) rfl) ?_
          refine lw_on rfl rfl (rfl) ?_
          refine lw_call rfl en18 (create_sl hE hs (show 5 < 1000000 by decide) (nm1 103) (k := 0) (d2 := kD [(nm1 102, 1), (nm1 103, 2)] [(nm1 102, 1)] [chG] 2 6 [(1, ⟨1, la ++ lb, la.length⟩), (2, ⟨2, [], 0⟩)]) (Dk.create_up rfl rfl (by decide) (by kernel_rfl))) ?_
          clear hs
          rintro _ w ⟨rfl, hs⟩
          refine lw_on rfl rfl (rfl) ?_
          first | refine lw_val rfl (run_neerrn (ad := ad) rfl) ?_ | refine lw_val rfl (run_nenn rfl) ?_
          first | refine lw_val rfl (run_pickF (v := .bool _) rfl (rfl) rfl) ?_
          first | refine lw_val rfl (run_move (v := .bool _) rfl) ?_
          refine lw_on rfl rfl (rfl) ?_
          first | refine lw_val rfl (run_move (v := .pointer (some _)) rfl) ?_ | refine lw_val rfl (run_move (v := .pointer none) rfl) ?_
          refine lw_on rfl rfl (rfl) ?_
          first | refine lw_val rfl (run_move (v := .slice _ _ _) rfl) ?_
          refine lw_on rfl rfl (rfl) ?_
          refine lw_call rfl en19 (append_sl hE hs (show 6 < 1000000 by decide) (nm1 103) (x := lc) (k := 0) (d2 := kD [(nm1 102, 1), (nm1 103, 2)] [(nm1 102, 1)] [chG] 2 7 [(1, ⟨1, la ++ lb, la.length⟩), (2, ⟨2, lc, 0⟩)]) (h3.rd _) rfl (by omega) (Dk.append_up (i := 2) rfl rfl rfl (by show (la ++ lb).length + (0 + 0) + lc.length ≤ 2000; rw [List.length_append]; omega))) ?_
          clear hs
          rintro _ w ⟨rfl, hs⟩
          refine lw_on rfl rfl (rfl) ?_
          first | refine lw_val rfl (run_neerrn (ad := ad) rfl) ?_ | refine lw_val rfl (run_nenn rfl) ?_
          first | refine lw_val rfl (run_pickF (v := .bool _) rfl (rfl) rfl) ?_
          first | refine lw_val rfl (run_move (v := .bool _) rfl) ?_
          refine lw_on rfl rfl (rfl) ?_
          first | refine lw_val rfl (run_move (v := .pointer (some _)) rfl) ?_ | refine lw_val rfl (run_move (v := .pointer none) rfl) ?_
          refine lw_on rfl rfl (rfl) ?_
          refine lw_call rfl en34 (sync_sl hE hs (show 7 < 1000000 by decide) (nm1 103) (k := 0) (d2 := kD [(nm1 102, 1), (nm1 103, 2)] [(nm1 102, 1)] [chG] 2 8 [(1, ⟨1, la ++ lb, la.length⟩), (2, ⟨2, lc, lc.length⟩)]) (Dk.sync_up (i := 2) rfl rfl rfl)) ?_
          clear hs
          rintro _ w ⟨rfl, hs⟩
          refine lw_on rfl rfl (rfl) ?_
          first | refine lw_val rfl (run_neerrn (ad := ad) rfl) ?_ | refine lw_val rfl (run_nenn rfl) ?_
          first | refine lw_val rfl (run_pickF (v := .bool _) rfl (rfl) rfl) ?_
          refine lw_nil ?_
          refine cw_iff rfl (rfl) ?_
          refine cw_skip ?_
          refine cw_seq ?_
          refine cw_region ?_
          first | refine lw_val rfl (run_move (v := .pointer (some _)) rfl) ?_ | refine lw_val rfl (run_move (v := .pointer none) rfl) ?_
          first | refine lw_val rfl (run_move (v := .slice _ _ _) rfl) ?_
          refine lw_call rfl en33 (crash_sl hs (show 8 < 1000000 by decide) (picks := picks) (h4.rd _) rfl (by omega)) ?_
          clear hs
          rintro _ w ⟨rfl, hs⟩
          refine lw_nil ?_
          refine cw_seq ?_
          refine cw_region ?_
          first | refine lw_val rfl (run_move (v := .pointer (some _)) rfl) ?_ | refine lw_val rfl (run_move (v := .pointer none) rfl) ?_
          refine lw_call rfl en21 (len_sl hE hs (nm1 102) f1) ?_
          clear hs
          rintro _ w ⟨rfl, hs⟩
          first | refine lw_val rfl (run_move (v := .tuple _) rfl) ?_
          first | refine lw_val rfl (run_extract (v := .int .i64 _) rfl rfl) ?_
          first | refine lw_val rfl (run_extract (v := errV ad _) rfl rfl) ?_ | refine lw_val rfl (run_extract (v := .nilIface) rfl rfl) ?_
          first | refine lw_val rfl (run_assign (v := .int .i64 _) rfl) ?_
          first | refine lw_val rfl (run_assign (v := errV ad _) rfl) ?_ | refine lw_val rfl (run_assign (v := .nilIface) rfl) ?_
          refine lw_nil ?_
          refine cw_seq ?_
          refine cw_seq ?_
          refine cw_region ?_
          first | refine lw_val rfl (run_move (v := errV ad _) rfl) ?_ | refine lw_val rfl (run_move (v := .nilIface) rfl) ?_
          first | refine lw_val rfl (run_neerrn (ad := ad) rfl) ?_ | refine lw_val rfl (run_nenn rfl) ?_
          first | refine lw_val rfl (run_move (v := .bool _) rfl) ?_
          refine lw_on rfl rfl (rfl) ?_
          first | refine lw_val rfl (run_move (v := .int .i64 _) rfl) ?_
          refine lw_on rfl rfl (rfl) ?_
          first | refine lw_val rfl (run_move (v := .slice _ _ _) rfl) ?_
          refine lw_on rfl rfl (rfl) ?_
          refine lw_val rfl (run_lenS Tryd.underlying30 rfl) ?_
          refine lw_on rfl rfl (rfl) ?_
          refine lw_val rfl (run_lss rfl rfl) ?_
          first | refine lw_val rfl (run_pickF (v := .bool _) rfl (rfl) rfl) ?_
          first | refine lw_val rfl (run_move (v := .bool _) rfl) ?_
          refine lw_on rfl rfl (decide_eq_false (by omega)) ?_
          first | refine lw_val rfl (run_move (v := .int .i64 _) rfl) ?_
          refine lw_on rfl rfl (decide_eq_false (by omega)) ?_
          first | refine lw_val rfl (run_move (v := .slice _ _ _) rfl) ?_
          refine lw_on rfl rfl (decide_eq_false (by omega)) ?_
          refine lw_val rfl (run_lenS Tryd.underlying30 rfl) ?_
          refine lw_on rfl rfl (decide_eq_false (by omega)) ?_
          first | refine lw_val rfl (run_move (v := .slice _ _ _) rfl) ?_
          refine lw_on rfl rfl (decide_eq_false (by omega)) ?_
          refine lw_val rfl (run_lenS Tryd.underlying30 rfl) ?_
          refine lw_on rfl rfl (decide_eq_false (by omega)) ?_
          refine lw_val rfl (run_add64 rfl rfl rfl (inI (by omega) (by omega))) ?_
          refine lw_on rfl rfl (decide_eq_false (by omega)) ?_
          refine lw_val rfl (run_gtr rfl rfl) ?_
          first | refine lw_val rfl (run_pickF (v := .bool _) rfl (decide_eq_false (by omega)) rfl) ?_
          refine lw_nil ?_
          refine cw_iff rfl (decide_eq_false (by omega)) ?_
          refine cw_skip ?_
          refine cw_seq ?_
          refine cw_region ?_
          first | refine lw_val rfl (run_move (v := .pointer (some _)) rfl) ?_ | refine lw_val rfl (run_move (v := .pointer none) rfl) ?_
          first | refine lw_val rfl (run_move (v := .int .i64 _) rfl) ?_
          refine lw_call rfl en32 (read_sl hE hs (nm1 102) (off := 0) (m := m) (inI (by decide) (by decide)) (inI (by omega) (by omega)) f2) ?_
          clear hs
          rintro _ w ⟨ar, cr, rfl, hs⟩
          first | refine lw_val rfl (run_move (v := .tuple _) rfl) ?_
          first | refine lw_val rfl (run_extract (v := .slice _ _ _) rfl rfl) ?_
          first | refine lw_val rfl (run_extract (v := errV ad _) rfl rfl) ?_ | refine lw_val rfl (run_extract (v := .nilIface) rfl rfl) ?_
          first | refine lw_val rfl (run_assign (v := .slice _ _ _) rfl) ?_
          first | refine lw_val rfl (run_assign (v := errV ad _) rfl) ?_ | refine lw_val rfl (run_assign (v := .nilIface) rfl) ?_
          refine lw_nil ?_
          refine cw_seq ?_
          refine cw_region ?_
          refine lw_makeSlice hs rfl Tryd.underlying30 in5 rfl rfl rfl (l := 0) (c := 700) rfl rfl (by decide) (by decide) (by decide) ?_
          clear hs
          intro b131 w hs
          try simp only [List.set_cons_succ, List.set_cons_zero] at hs
          first | refine lw_val rfl (run_move (v := .slice _ _ _) rfl) ?_
          refine lw_append hs rfl 0 rfl Tryd.underlying30 in5 rfl rfl rfl (src_of_seq (P := Tryd.prog) Tryd.underlying30 ((h1.rd _).seq hs) (bytesL_one la)) (by simp only [bytesL_len, List.length_replicate]; omega) (by simp only [bytesL_len, List.length_replicate]; omega) ?_
          clear hs
          intro a133 c133 w hs
          simp only [List.set_cons_succ, List.set_cons_zero] at hs
          first | refine lw_val rfl (run_move (v := .slice _ _ _) rfl) ?_
          refine lw_append hs rfl 0 rfl Tryd.underlying30 in5 rfl rfl rfl (src_of_seq (P := Tryd.prog) Tryd.underlying30 ((h2.rd _).seq hs) (bytesL_one lb)) (by simp only [bytesL_len, List.length_replicate, List.length_append]; omega) (by simp only [bytesL_len, List.length_replicate, List.length_append]; omega) ?_
          clear hs
          intro a135 c135 w hs
          simp only [List.set_cons_succ, List.set_cons_zero] at hs
          obtain ⟨hl1, hl2, _⟩ := hs.ownForm 0 rfl
          simp only [List.replicate_zero, List.nil_append, List.length_append, bytesL_len, List.length_nil, Nat.zero_add] at hs hl1 hl2
          rw [← bytesL_app] at hs
          first | refine lw_val rfl (run_assign (v := .slice _ _ _) rfl) ?_
          refine lw_nil ?_
          refine cw_seq ?_
          refine cw_region ?_
          first | refine lw_val rfl (run_move (v := .pointer (some _)) rfl) ?_ | refine lw_val rfl (run_move (v := .pointer none) rfl) ?_
          refine lw_call rfl en35 (synced_sl (L := _ :: _ :: []) hE (hs.arr [2, 0, 1] 3 (by decide)) (nm1 102) f3) ?_
          clear hs
          rintro _ w ⟨rfl, hs⟩
          first | refine lw_val rfl (run_move (v := .tuple _) rfl) ?_
          first | refine lw_val rfl (run_extract (v := .int .i64 _) rfl rfl) ?_
          first | refine lw_val rfl (run_extract (v := errV ad _) rfl rfl) ?_ | refine lw_val rfl (run_extract (v := .nilIface) rfl rfl) ?_
          first | refine lw_val rfl (run_assign (v := .int .i64 _) rfl) ?_
          first | refine lw_val rfl (run_assign (v := errV ad _) rfl) ?_ | refine lw_val rfl (run_assign (v := .nilIface) rfl) ?_
          refine lw_nil ?_
          refine cw_seq ?_
          refine cw_seq ?_
          refine cw_region ?_
          first | refine lw_val rfl (run_move (v := errV ad _) rfl) ?_ | refine lw_val rfl (run_move (v := .nilIface) rfl) ?_
          first | refine lw_val rfl (run_neerrn (ad := ad) rfl) ?_ | refine lw_val rfl (run_nenn rfl) ?_
          first | refine lw_val rfl (run_move (v := .bool _) rfl) ?_
          refine lw_on rfl rfl (rfl) ?_
          first | refine lw_val rfl (run_move (v := errV ad _) rfl) ?_ | refine lw_val rfl (run_move (v := .nilIface) rfl) ?_
          refine lw_on rfl rfl (rfl) ?_
          first | refine lw_val rfl (run_neerrn (ad := ad) rfl) ?_ | refine lw_val rfl (run_nenn rfl) ?_
          first | refine lw_val rfl (run_pickF (v := .bool _) rfl (rfl) rfl) ?_
          first | refine lw_val rfl (run_move (v := .bool _) rfl) ?_
          refine lw_on rfl rfl (rfl) ?_
          first | refine lw_val rfl (run_move (v := .int .i64 _) rfl) ?_
          refine lw_on rfl rfl (rfl) ?_
          first | refine lw_val rfl (run_move (v := .int .i64 _) rfl) ?_
          refine lw_on rfl rfl (rfl) ?_
          refine lw_val rfl (run_nei rfl rfl) ?_
          first | refine lw_val rfl (run_pickF (v := .bool _) rfl (rfl) rfl) ?_
          first | refine lw_val rfl (run_move (v := .bool _) rfl) ?_
          refine lw_on rfl rfl (by simp) ?_
          first | refine lw_val rfl (run_move (v := .slice _ _ _) rfl) ?_
          refine lw_on rfl rfl (by simp) ?_
          first | refine lw_val rfl (run_move (v := .slice _ _ _) rfl) ?_
          refine lw_on rfl rfl (by simp) ?_
          first | refine lw_val rfl (run_move (v := .int .i64 _) rfl) ?_
          refine lw_on rfl rfl (by simp) ?_
          refine lw_val rfl (run_sliceTo Tryd.underlying30 sz5 rfl rfl (hi := m) rfl (by omega)) ?_
          refine lw_on rfl rfl (by simp) ?_
          refine lw_call rfl en27 (sameB_sl hs (la := (la ++ lb).take m) (lb := ((la ++ lb).take m).drop 0) (hs.rdOwn 2 rfl) ((hs.rdOwn 1 rfl).subB (by omega) (by omega)) rfl (by simp; omega) (by simp; omega)) ?_
          clear hs
          rintro _ w ⟨rfl, hs⟩
          refine lw_on rfl rfl (by simp) ?_
          refine lw_val rfl (run_not rfl) ?_
          first | refine lw_val rfl (run_pickF (v := .bool _) rfl (by simp) rfl) ?_
          refine lw_nil ?_
          refine cw_iff rfl (not_f (decide_eq_true rfl)) ?_
          refine cw_skip ?_
          refine cw_seq ?_
          refine cw_region ?_
          first | refine lw_val rfl (run_move (v := .pointer (some _)) rfl) ?_ | refine lw_val rfl (run_move (v := .pointer none) rfl) ?_
          refine lw_call rfl en21 (len_sl hE hs (nm1 103) f4) ?_
          clear hs
          rintro _ w ⟨rfl, hs⟩
          first | refine lw_val rfl (run_move (v := .tuple _) rfl) ?_
          first | refine lw_val rfl (run_extract (v := .int .i64 _) rfl rfl) ?_
          first | refine lw_val rfl (run_extract (v := errV ad _) rfl rfl) ?_ | refine lw_val rfl (run_extract (v := .nilIface) rfl rfl) ?_
          first | refine lw_val rfl (run_assign (v := .int .i64 _) rfl) ?_
          first | refine lw_val rfl (run_assign (v := errV ad _) rfl) ?_ | refine lw_val rfl (run_assign (v := .nilIface) rfl) ?_
          refine lw_nil ?_
          refine cw_seq ?_
          refine cw_region ?_
          first | refine lw_val rfl (run_move (v := errV ad _) rfl) ?_ | refine lw_val rfl (run_move (v := .nilIface) rfl) ?_
          first | refine lw_val rfl (run_eqerrn (ad := ad) rfl) ?_ | refine lw_val rfl (run_eqnn rfl) ?_
          first | refine lw_val rfl (run_move (v := .bool _) rfl) ?_
          refine lw_split (t := _) (d := 167) rfl ?_ ?_
          · intro h166
            have g166 := of_decide_eq_true h166
            refine lw_on rfl rfl h166 ?_
            first | refine lw_val rfl (run_move (v := .int .i64 _) rfl) ?_
            refine lw_on rfl rfl h166 ?_
            first | refine lw_val rfl (run_move (v := .slice _ _ _) rfl) ?_
            refine lw_on rfl rfl h166 ?_
            refine lw_val rfl (run_lenS Tryd.underlying30 rfl) ?_
            refine lw_on rfl rfl h166 ?_
            refine lw_val rfl (run_eqi rfl rfl) ?_
            first | refine lw_val rfl (run_pickT (v := .bool _) rfl h166 rfl) ?_
            first | refine lw_val rfl (run_move (v := .bool _) rfl) ?_
            refine lw_off rfl rfl rfl (decide_eq_true (by have := of_decide_eq_true h166; rcases hg with h | h <;> omega)) ?_
            refine lw_off rfl rfl rfl (decide_eq_true (by have := of_decide_eq_true h166; rcases hg with h | h <;> omega)) ?_
            refine lw_off rfl rfl rfl (decide_eq_true (by have := of_decide_eq_true h166; rcases hg with h | h <;> omega)) ?_
            refine lw_offU rfl rfl rfl ?_
            refine lw_offU rfl rfl rfl ?_
            refine lw_off rfl rfl rfl (decide_eq_true (by have := of_decide_eq_true h166; rcases hg with h | h <;> omega)) ?_
            first | refine lw_val rfl (run_pickT (v := .bool _) rfl (decide_eq_true (by have := of_decide_eq_true h166; rcases hg with h | h <;> omega)) rfl) ?_
            first | refine lw_val rfl (run_assign (v := .bool _) rfl) ?_
            refine lw_nil ?_
            refine cw_ret ?_
            refine res1 (v := .bool _) rfl rfl ?_
            exact ⟨_, rfl, ret_b (by first | rfl | exact decide_eq_true (by have := of_decide_eq_true h166; rcases hg with h | h <;> omega) | exact decide_eq_true (by have := of_decide_eq_false h166; rcases hg with h | h <;> omega)), hs.nil⟩
          · intro h166
            have g166 := of_decide_eq_false h166
            refine lw_off rfl rfl rfl h166 ?_
            refine lw_off rfl rfl rfl h166 ?_
            refine lw_off rfl rfl rfl h166 ?_
            refine lw_off rfl rfl rfl h166 ?_
            first | refine lw_val rfl (run_pickF (v := .bool _) rfl h166 rfl) ?_
            first | refine lw_val rfl (run_move (v := .bool _) rfl) ?_
            refine lw_on rfl rfl rfl ?_
            first | refine lw_val rfl (run_move (v := errV ad _) rfl) ?_ | refine lw_val rfl (run_move (v := .nilIface) rfl) ?_
            refine lw_on rfl rfl rfl ?_
            refine lw_call rfl en20 (isA_sl hA hs (d := kg) (by rcases hg with h | h <;> (rw [h.1]; decide)) 107) ?_
            clear hs
            rintro _ w ⟨rfl, hs⟩
            refine lw_on rfl rfl rfl ?_
            first | refine lw_val rfl (run_move (v := .bool _) rfl) ?_
            refine lw_on rfl rfl (decide_eq_true (by have := of_decide_eq_false h166; rcases hg with h | h <;> omega)) ?_
            first | refine lw_val rfl (run_move (v := .int .i64 _) rfl) ?_
            refine lw_on rfl rfl (decide_eq_true (by have := of_decide_eq_false h166; rcases hg with h | h <;> omega)) ?_
            refine lw_val rfl (run_eqi rfl rfl) ?_
            refine lw_on rfl rfl rfl ?_
            first | refine lw_val rfl (run_pickT (v := .bool _) rfl (decide_eq_true (by have := of_decide_eq_false h166; rcases hg with h | h <;> omega)) rfl) ?_
            first | refine lw_val rfl (run_pickF (v := .bool _) rfl rfl rfl) ?_
            first | refine lw_val rfl (run_assign (v := .bool _) rfl) ?_
            refine lw_nil ?_
            refine cw_ret ?_
            refine res1 (v := .bool _) rfl rfl ?_
            exact ⟨_, rfl, ret_b (by first | rfl | exact decide_eq_true (by have := of_decide_eq_true h166; rcases hg with h | h <;> omega) | exact decide_eq_true (by have := of_decide_eq_false h166; rcases hg with h | h <;> omega)), hs.nil⟩
end Go.Proofs.YthlnkniocklegaaDoor
