/- The law PointFull: a disk that has no room for what is new keeps what was there. -/
import Derived.Test.YthlnkniocklegaaDoorPK
namespace Go.Proofs.YthlnkniocklegaaDoor
set_option linter.all false
open Go.RowKit
attribute [local irreducible] errV
variable {g w : World} {L M : List HP} {ad : Nat → Addr} {p : Nat} {d : Dk}

/-- A Write that finds no room. -/
theorem Calm.write_full {s : ByteArray} {b : List UInt8} (h : Calm d) (hv : validB s.data.toList = true) (hv2 : validB (newN s).data.toList = true) (ha : d.armed = 0) (hr : d.room < useL d.fs (wl s d) + (b.length + 4)) :
    ∃ e, d.write s b = (109, e) ∧ e.down = false ∧ (∀ n, n ≠ newN s → aget e.names n = aget d.names n) ∧ (∀ i F, aget d.fs i = some F → aget e.fs i = some F) := by
  have hw : d.write s b = Dk.wrun s b 6 0 (pw d d.names [] d.files d.fs d.armed false d.calls) := by
    unfold Dk.write
    rw [if_pos ⟨hv, hv2⟩, ← h.form]
  rw [hw, wrun_step (a := 0) h.st0, if_neg (by omega), ha]
  obtain ⟨c1, g1⟩ : ∃ c1, (if (aget d.names (newN s)).isSome then d.calls + 1 else d.calls) = c1 := ⟨_, rfl⟩
  rw [g1, show (if (aget d.names (newN s)).isSome = true then 0 - 1 else 0) = 0 by split <;> rfl, wrun_step (a := 0) (h.st1 hv2), if_neg (by decide), Dk.wrun_succ, show (0 : Nat) - 1 = 0 from rfl, h.st2full hr, if_neg (show ¬ (109 = 0) by decide)]
  refine ⟨_, rfl, rfl, fun n hn => ?_, fun i F hF => ?_⟩
  · show aget (wl s d ++ [(newN s, d.files + 1)]) n = _
    rw [aget_app_old h.fresh hn, wl, aget_adel hn]
  · show aget (d.fs ++ [(d.files + 1, _)]) i = _
    rw [aget_app_old h.key (fun e => h.key (e ▸ aget_keys hF)), hF]
theorem full_facts {room : Nat} (hr : room ≤ 4194304) (la lb : List UInt8) (hla : la.length + 4 ≤ room) : ∃ e1, (Dk.empty room).write (nm1 112) la = (0, e1) ∧ e1.calls ≤ 6 ∧ (e1.ok → ∃ k2 e2, e1.write (nm1 112) lb = (k2, e2) ∧ e2.calls ≤ 12 ∧
    (room < la.length + lb.length + 8 ∧ k2 = 109 ∧ e2.pread (nm1 112) = (0, la) ∨ la.length + lb.length + 8 ≤ room ∧ k2 = 0 ∧ e2.pread (nm1 112) = (0, lb) ∧ e2.used = lb.length + 4)) := by
  have hv2 : validB (newN (nm1 112)).data.toList = true := by decide +kernel
  have hv1 : validB (nm1 112).data.toList = true := by decide +kernel
  have c0 : Calm (Dk.empty room) := ⟨Dk.empty_ok hr, rfl, rfl, rfl⟩
  obtain ⟨k1, e1, hw1, hd1⟩ := c0.write (s := nm1 112) (b := la) hv1 hv2 (by show 0 + (la.length + 4) ≤ room; omega)
  obtain ⟨rfl, m1⟩ := hd1.resolve_right (fun h => h.2.2.1 rfl)
  have hc1 := Dk.write_calls hw1
  refine ⟨e1, hw1, by simpa [Dk.empty] using hc1, fun hok1 => ?_⟩
  have c1 : Calm e1 := ⟨hok1, m1.up, m1.kept, m1.still⟩
  have hn1 : e1.names = [(nm1 112, 1)] := m1.names
  have hf1 : e1.fs = [(1, ⟨1, sealL la, (sealL la).length⟩)] := m1.fs
  have hne : newN (nm1 112) ≠ nm1 112 := newN_ne _
  have hwl : wl (nm1 112) e1 = [(nm1 112, 1)] := by
    rw [wl, hn1, adel_none]
    simp [aget, Ne.symm hne]
  have hu1 : useL e1.fs (wl (nm1 112) e1) = la.length + 4 := by
    rw [hwl, hf1]
    show (sealL la).length + 0 = _
    rw [sealL_len]
  have hrm : e1.room = room := m1.room
  have hun : Under e1 (nm1 112) (some la) := ⟨1, 1, by rw [hn1]; simp [aget], by rw [hf1]; rfl⟩
  rcases Nat.lt_or_ge room (la.length + lb.length + 8) with h | h
  · obtain ⟨e2, hw2, hup, hnm, hfs⟩ := c1.write_full (s := nm1 112) (b := lb) hv1 hv2 (m1.arm rfl) (by rw [hrm, hu1]; omega)
    have hc2 := Dk.write_calls hw2
    refine ⟨109, e2, hw2, by simp [Dk.empty] at hc1; omega, .inl ⟨h, rfl, ?_⟩⟩
    obtain ⟨i, q, k1, k2⟩ := hun
    have hun2 : Under e2 (nm1 112) (some la) := ⟨i, q, by rw [hnm _ (Ne.symm hne)]; exact k1, hfs _ _ k2⟩
    exact hun2.read hup
  · obtain ⟨k2, e2, hw2, hd2⟩ := c1.write (s := nm1 112) (b := lb) hv1 hv2 (by rw [hrm, hu1]; omega)
    obtain ⟨rfl, m2⟩ := hd2.resolve_right (fun h => h.2.2.1 (m1.arm rfl))
    have hc2 := Dk.write_calls hw2
    have hn2 : e2.names = [(nm1 112, e1.files + 1)] := by rw [m2.names, hwl]; simp [aput]
    refine ⟨0, e2, hw2, by simp [Dk.empty] at hc1; omega, .inr ⟨h, rfl, ?_, ?_⟩⟩
    · exact Under.read (o := some lb) ⟨_, _, by rw [hn2]; simp [aget], m2.new⟩ m2.up
    · show useL e2.fs e2.names = _
      rw [hn2]
      simp only [useL, List.map_cons, List.map_nil, m2.new]
      show (sealL lb).length + 0 = _
      rw [sealL_len]
set_option maxRecDepth 100000 in
theorem pointFull_sl (hE : ErrK ad g) (hs : Mem g w []) {a0 a1 : Option Addr} {n0 n1 c0 c1 : Nat} {la lb : List UInt8} {rm : Int} (h0 : Came g (.slice a0 n0 c0) (bytesL la)) (h1 : Came g (.slice a1 n1 c1) (bytesL lb))
    (e0 : n0 = la.length) (e1 : n1 = lb.length) : Calls Tryd.prog 4 #[.slice a0 n0 c0, .slice a1 n1 c1, .int .i64 rm] w (Ret fun v w' => v = .bool true ∧ Mem g w' []) := by
  subst e0 e1
  refine calls_cw Tryd.func4 rfl rfl ?_
  skip
  refine cw_seq ?_
  refine cw_region ?_
  first | refine lw_val rfl (run_assign (v := .bool _) rfl) ?_
  refine lw_nil ?_
  refine cw_seq ?_
  refine cw_region ?_
  refine lw_call rfl en24 (first8_sl hs) ?_
  clear hs
  rintro _ w ⟨rfl, hs⟩
  first | refine lw_val rfl (run_assign (v := .bool _) rfl) ?_
  refine lw_nil ?_
  refine cw_seq ?_
  refine cw_seq ?_
  refine cw_region ?_
  first | refine lw_val rfl (run_move (v := .bool _) rfl) ?_
  refine lw_val rfl (run_not rfl) ?_
  refine lw_nil ?_
  refine cw_iff rfl (not_f (rfl)) ?_
  refine cw_skip ?_
  refine cw_seq ?_
  refine cw_seq ?_
  refine cw_region ?_
  first | refine lw_val rfl (run_move (v := .slice _ _ _) rfl) ?_
  refine lw_val rfl (run_lenS Tryd.underlying30 rfl) ?_
  refine lw_val rfl (run_gtr rfl rfl) ?_
  first | refine lw_val rfl (run_move (v := .bool _) rfl) ?_
  refine lw_split (t := _) (d := 19) rfl ?_ ?_
  · intro h18
    have g18 := of_decide_eq_true h18
    refine lw_off rfl rfl rfl h18 ?_
    refine lw_off rfl rfl rfl h18 ?_
    refine lw_off rfl rfl rfl h18 ?_
    first | refine lw_val rfl (run_pickT (v := .bool _) rfl h18 rfl) ?_
    first | refine lw_val rfl (run_move (v := .bool _) rfl) ?_
    refine lw_off rfl rfl rfl rfl ?_
    refine lw_off rfl rfl rfl rfl ?_
    first | refine lw_val rfl (run_pickT (v := .bool _) rfl rfl rfl) ?_
    refine lw_nil ?_
    refine cw_ift rfl rfl ?_
    refine cw_seq ?_
    refine cw_region ?_
    first | refine lw_val rfl (run_move (v := .bool _) rfl) ?_
    first | refine lw_val rfl (run_assign (v := .bool _) rfl) ?_
    refine lw_nil ?_
    refine cw_ret ?_
    refine res1 (v := .bool _) rfl rfl ?_
    exact ⟨_, rfl, rfl, hs⟩
  · intro h18
    have g18 := of_decide_eq_false h18
    refine lw_on rfl rfl h18 ?_
    first | refine lw_val rfl (run_move (v := .slice _ _ _) rfl) ?_
    refine lw_on rfl rfl h18 ?_
    refine lw_val rfl (run_lenS Tryd.underlying30 rfl) ?_
    refine lw_on rfl rfl h18 ?_
    refine lw_val rfl (run_gtr rfl rfl) ?_
    first | refine lw_val rfl (run_pickF (v := .bool _) rfl h18 rfl) ?_
    first | refine lw_val rfl (run_move (v := .bool _) rfl) ?_
    refine lw_split (t := _) (d := 24) rfl ?_ ?_
    · intro h22
      have g22 := of_decide_eq_true h22
      refine lw_off rfl rfl rfl h22 ?_
      refine lw_off rfl rfl rfl h22 ?_
      first | refine lw_val rfl (run_pickT (v := .bool _) rfl h22 rfl) ?_
      refine lw_nil ?_
      refine cw_ift rfl rfl ?_
      refine cw_seq ?_
      refine cw_region ?_
      first | refine lw_val rfl (run_move (v := .bool _) rfl) ?_
      first | refine lw_val rfl (run_assign (v := .bool _) rfl) ?_
      refine lw_nil ?_
      refine cw_ret ?_
      refine res1 (v := .bool _) rfl rfl ?_
      exact ⟨_, rfl, rfl, hs⟩
    · intro h22
      have g22 := of_decide_eq_false h22
      refine lw_on rfl rfl h22 ?_
      first | refine lw_val rfl (run_move (v := .bool _) rfl) ?_
      refine lw_on rfl rfl h22 ?_
      refine lw_val rfl (run_not rfl) ?_
      first | refine lw_val rfl (run_pickF (v := .bool _) rfl h22 rfl) ?_
      refine lw_nil ?_
      refine cw_iff rfl (not_f (rfl)) ?_
      refine cw_skip ?_
      refine cw_seq ?_
      refine cw_region ?_
      first | refine lw_val rfl (run_move (v := .int .i64 _) rfl) ?_
      refine lw_call rfl en16 (number_sl hs rm 500 (by decide)) ?_
      clear hs
      rintro _ w ⟨r, hr, rfl, hs⟩
      first | refine lw_val rfl (run_move (v := .slice _ _ _) rfl) ?_
      refine lw_val rfl (run_lenS Tryd.underlying30 rfl) ?_
      refine lw_val rfl (run_add64 rfl rfl (c := ((r + la.length : Nat) : Int)) (by omega) (inI (by omega) (by omega))) ?_
      refine lw_val rfl (run_add64 rfl rfl (c := ((r + la.length + 4 : Nat) : Int)) (by omega) (inI (by omega) (by omega))) ?_
      first | refine lw_val rfl (run_assign (v := .int .i64 _) rfl) ?_
      refine lw_nil ?_
      refine cw_seq ?_
      refine cw_region ?_
      first | refine lw_val rfl (run_move (v := .int .i64 _) rfl) ?_
      refine lw_call rfl en17 (newd_sl hs (r := r + la.length + 4) (by omega) (by omega)) ?_
      clear hs
      rintro _ w ⟨p, rfl, hs⟩
      obtain ⟨e1, hw1, hc1, hnx⟩ := full_facts (room := r + la.length + 4) (by omega) la lb (by omega)
      first | refine lw_val rfl (run_move (v := .tuple _) rfl) ?_
      first | refine lw_val rfl (run_extract (v := .pointer (some _)) rfl rfl) ?_ | refine lw_val rfl (run_extract (v := .pointer none) rfl rfl) ?_
      first | refine lw_val rfl (run_extract (v := errV ad _) rfl rfl) ?_ | refine lw_val rfl (run_extract (v := .nilIface) rfl rfl) ?_
      first | refine lw_val rfl (run_assign (v := .pointer (some _)) rfl) ?_ | refine lw_val rfl (run_assign (v := .pointer none) rfl) ?_
      first | refine lw_val rfl (run_assign (v := errV ad _) rfl) ?_ | refine lw_val rfl (run_assign (v := .nilIface) rfl) ?_
      refine lw_nil ?_
      refine cw_seq ?_
      refine cw_seq ?_
      refine cw_region ?_
      first | refine lw_val rfl (run_move (v := .pointer (some _)) rfl) ?_ | refine lw_val rfl (run_move (v := .pointer none) rfl) ?_
      refine lw_val rfl (run_eqpn Tryd.underlying25 rfl rfl) ?_
      first | refine lw_val rfl (run_move (v := .bool _) rfl) ?_
      refine lw_on rfl rfl rfl ?_
      first | refine lw_val rfl (run_move (v := errV ad _) rfl) ?_ | refine lw_val rfl (run_move (v := .nilIface) rfl) ?_
      refine lw_on rfl rfl rfl ?_
      first | refine lw_val rfl (run_neerrn (ad := ad) rfl) ?_ | refine lw_val rfl (run_nenn rfl) ?_
      first | refine lw_val rfl (run_pickF (v := .bool _) rfl rfl rfl) ?_
      first | refine lw_val rfl (run_move (v := .bool _) rfl) ?_
      refine lw_on rfl rfl (rfl) ?_
      first | refine lw_val rfl (run_move (v := .pointer (some _)) rfl) ?_ | refine lw_val rfl (run_move (v := .pointer none) rfl) ?_
      refine lw_on rfl rfl (rfl) ?_
      first | refine lw_val rfl (run_move (v := .slice _ _ _) rfl) ?_
      refine lw_on rfl rfl (rfl) ?_
      refine lw_call rfl en25 (write_sl hE (show 0 < 900000 by decide) hs (nm1 112) (by decide) (h0.rd _) rfl (by omega) hw1) ?_
      clear hs
      rintro _ w ⟨rfl, hs⟩
      obtain ⟨hok1, _⟩ := hs.openD
      obtain ⟨k2, e2, hw2, hc2, hx⟩ := hnx hok1
      refine lw_on rfl rfl (rfl) ?_
      first | refine lw_val rfl (run_neerrn (ad := ad) rfl) ?_ | refine lw_val rfl (run_nenn rfl) ?_
      first | refine lw_val rfl (run_pickF (v := .bool _) rfl (rfl) rfl) ?_
      refine lw_nil ?_
      refine cw_iff rfl (rfl) ?_
      refine cw_skip ?_
      refine cw_seq ?_
      refine cw_region ?_
      first | refine lw_val rfl (run_move (v := .pointer (some _)) rfl) ?_ | refine lw_val rfl (run_move (v := .pointer none) rfl) ?_
      first | refine lw_val rfl (run_move (v := .slice _ _ _) rfl) ?_
      refine lw_call rfl en25 (write_sl hE (by omega) hs (nm1 112) (by decide) (h1.rd _) rfl (by omega) hw2) ?_
      clear hs
      rintro _ w ⟨rfl, hs⟩
      obtain ⟨v, hrd, hv⟩ : ∃ v, e2.pread (nm1 112) = (0, v) ∧ (r + la.length + 4 < la.length + lb.length + 8 ∧ k2 = 109 ∧ v = la ∨ la.length + lb.length + 8 ≤ r + la.length + 4 ∧ k2 = 0 ∧ v = lb ∧ e2.used = lb.length + 4) := by rcases hx with ⟨h1, h2, h3⟩ | ⟨h1, h2, h3, h4⟩; exact ⟨la, h3, .inl ⟨h1, h2, rfl⟩⟩; exact ⟨lb, h3, .inr ⟨h1, h2, rfl, h4⟩⟩
      first | refine lw_val rfl (run_assign (v := errV ad _) rfl) ?_ | refine lw_val rfl (run_assign (v := .nilIface) rfl) ?_
      refine lw_nil ?_
      refine cw_seq ?_
      refine cw_region ?_
      first | refine lw_val rfl (run_move (v := .pointer (some _)) rfl) ?_ | refine lw_val rfl (run_move (v := .pointer none) rfl) ?_
      refine lw_call rfl en26 (pread_sl hE hs (nm1 112) hrd) ?_
      clear hs
      rintro _ w ⟨a57, c57, rfl, hs⟩
      first | refine lw_val rfl (run_move (v := .tuple _) rfl) ?_
      first | refine lw_val rfl (run_extract (v := .slice _ _ _) rfl rfl) ?_
      first | refine lw_val rfl (run_extract (v := errV ad _) rfl rfl) ?_ | refine lw_val rfl (run_extract (v := .nilIface) rfl rfl) ?_
      first | refine lw_val rfl (run_assign (v := .slice _ _ _) rfl) ?_
      first | refine lw_val rfl (run_assign (v := errV ad _) rfl) ?_ | refine lw_val rfl (run_assign (v := .nilIface) rfl) ?_
      refine lw_nil ?_
      refine cw_seq ?_
      refine cw_seq ?_
      refine cw_region ?_
      first | refine lw_val rfl (run_move (v := .slice _ _ _) rfl) ?_
      refine lw_val rfl (run_lenS Tryd.underlying30 rfl) ?_
      first | refine lw_val rfl (run_move (v := .slice _ _ _) rfl) ?_
      refine lw_val rfl (run_lenS Tryd.underlying30 rfl) ?_
      refine lw_val rfl (run_add64 rfl rfl rfl (inI (by omega) (by omega))) ?_
      refine lw_val rfl (run_add64 rfl rfl rfl (inI (by omega) (by omega))) ?_
      first | refine lw_val rfl (run_move (v := .int .i64 _) rfl) ?_
      refine lw_val rfl (run_gtr rfl rfl) ?_
      refine lw_nil ?_
      refine cw_if rfl ?_ ?_
      · intro h67
        have g67 := of_decide_eq_true h67
        obtain ⟨_, hk2, hvv⟩ := hv.resolve_right (fun h => by omega)
        refine cw_seq ?_
        refine cw_region ?_
        first | refine lw_val rfl (run_move (v := errV ad _) rfl) ?_ | refine lw_val rfl (run_move (v := .nilIface) rfl) ?_
        first | refine lw_val rfl (run_neerrn (ad := ad) rfl) ?_ | refine lw_val rfl (run_nenn rfl) ?_
        first | refine lw_val rfl (run_move (v := .bool _) rfl) ?_
        refine lw_on rfl rfl (by rw [hk2]; rfl) ?_
        first | refine lw_val rfl (run_move (v := errV ad _) rfl) ?_ | refine lw_val rfl (run_move (v := .nilIface) rfl) ?_
        refine lw_on rfl rfl (by rw [hk2]; rfl) ?_
        first | refine lw_val rfl (run_eqerrn (ad := ad) rfl) ?_ | refine lw_val rfl (run_eqnn rfl) ?_
        first | refine lw_val rfl (run_pickT (v := .bool _) rfl (by rw [hk2]; rfl) rfl) ?_
        first | refine lw_val rfl (run_move (v := .bool _) rfl) ?_
        refine lw_on rfl rfl (rfl) ?_
        first | refine lw_val rfl (run_move (v := .slice _ _ _) rfl) ?_
        refine lw_on rfl rfl (rfl) ?_
        first | refine lw_val rfl (run_move (v := .slice _ _ _) rfl) ?_
        refine lw_on rfl rfl (rfl) ?_
        refine lw_call rfl en27 (sameB_sl hs (la := v) (lb := la) (hs.rdOwn 0 rfl) (h0.rd _) rfl rfl (by rw [hvv]; omega)) ?_
        clear hs
        rintro _ w ⟨rfl, hs⟩
        first | refine lw_val rfl (run_pickT (v := .bool _) rfl (rfl) rfl) ?_
        first | refine lw_val rfl (run_assign (v := .bool _) rfl) ?_
        refine lw_nil ?_
        refine cw_ret ?_
        refine res1 (v := .bool _) rfl rfl ?_
        exact ⟨_, rfl, ret_b (decide_eq_true hvv), hs.nil⟩
      · intro h67
        have g67 := of_decide_eq_false h67
        obtain ⟨_, hk2, hvv, hus⟩ := hv.resolve_left (fun h => by omega)
        refine cw_skip ?_
        refine cw_seq ?_
        refine cw_region ?_
        first | refine lw_val rfl (run_move (v := errV ad _) rfl) ?_ | refine lw_val rfl (run_move (v := .nilIface) rfl) ?_
        first | refine lw_val rfl (run_eqerrn (ad := ad) rfl) ?_ | refine lw_val rfl (run_eqnn rfl) ?_
        first | refine lw_val rfl (run_move (v := .bool _) rfl) ?_
        refine lw_on rfl rfl (by rw [hk2]; rfl) ?_
        first | refine lw_val rfl (run_move (v := errV ad _) rfl) ?_ | refine lw_val rfl (run_move (v := .nilIface) rfl) ?_
        refine lw_on rfl rfl (by rw [hk2]; rfl) ?_
        first | refine lw_val rfl (run_eqerrn (ad := ad) rfl) ?_ | refine lw_val rfl (run_eqnn rfl) ?_
        first | refine lw_val rfl (run_pickT (v := .bool _) rfl (by rw [hk2]; rfl) rfl) ?_
        first | refine lw_val rfl (run_move (v := .bool _) rfl) ?_
        refine lw_on rfl rfl (rfl) ?_
        first | refine lw_val rfl (run_move (v := .slice _ _ _) rfl) ?_
        refine lw_on rfl rfl (rfl) ?_
        first | refine lw_val rfl (run_move (v := .slice _ _ _) rfl) ?_
        refine lw_on rfl rfl (rfl) ?_
        refine lw_call rfl en27 (sameB_sl hs (la := v) (lb := lb) (hs.rdOwn 0 rfl) (h1.rd _) rfl rfl (by rw [hvv]; omega)) ?_
        clear hs
        rintro _ w ⟨rfl, hs⟩
        first | refine lw_val rfl (run_pickT (v := .bool _) rfl (rfl) rfl) ?_
        first | refine lw_val rfl (run_move (v := .bool _) rfl) ?_
        refine lw_on rfl rfl (decide_eq_true hvv) ?_
        first | refine lw_val rfl (run_move (v := .pointer (some _)) rfl) ?_ | refine lw_val rfl (run_move (v := .pointer none) rfl) ?_
        refine lw_on rfl rfl (decide_eq_true hvv) ?_
        refine lw_call rfl en23 (used_sl (d := e2) (L := [own _ _]) (hs.arr [1, 0] 2 (by decide)) (by omega)) ?_
        clear hs
        rintro _ w ⟨rfl, hs⟩
        refine lw_on rfl rfl (decide_eq_true hvv) ?_
        first | refine lw_val rfl (run_move (v := .slice _ _ _) rfl) ?_
        refine lw_on rfl rfl (decide_eq_true hvv) ?_
        refine lw_val rfl (run_lenS Tryd.underlying30 rfl) ?_
        refine lw_on rfl rfl (decide_eq_true hvv) ?_
        refine lw_val rfl (run_add64 rfl rfl rfl (inI (by omega) (by omega))) ?_
        refine lw_on rfl rfl (decide_eq_true hvv) ?_
        refine lw_val rfl (run_eqi rfl rfl) ?_
        first | refine lw_val rfl (run_pickT (v := .bool _) rfl (decide_eq_true hvv) rfl) ?_
        first | refine lw_val rfl (run_assign (v := .bool _) rfl) ?_
        refine lw_nil ?_
        refine cw_ret ?_
        refine res1 (v := .bool _) rfl rfl ?_
        exact ⟨_, rfl, ret_b (decide_eq_true (by rw [hus]; rfl)), hs.nil⟩
end Go.Proofs.YthlnkniocklegaaDoor
