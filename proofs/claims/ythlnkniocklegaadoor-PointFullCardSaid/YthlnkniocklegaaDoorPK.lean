/- The laws PointFirst, PointKeeps. -/
import Derived.Test.YthlnkniocklegaaDoorPx
import Derived.Test.YthlnkniocklegaaDoorPf
namespace Go.Proofs.YthlnkniocklegaaDoor
set_option linter.all false
open Go.RowKit
attribute [local irreducible] errV
variable {g w : World} {L M : List HP} {ad : Nat → Addr} {p : Nat} {d : Dk}

abbrev nN : List ByteArray := [nm1 112]
theorem nN_new (c : UInt8) : ∀ n ∈ [nm1 c], newN (nm1 c) ≠ n := fun n hn => by
  simp only [List.mem_cons, List.not_mem_nil, or_false] at hn
  subst hn
  exact newN_ne _
theorem isP {N : List ByteArray} {B : Nat} {f : ByteArray → Option (List UInt8)} {d : Dk} {s : ByteArray} {v : List UInt8} (h : PtI N B f d) (hs : s ∈ N) (hv : f s = some v) : d.pread s = (0, v) := by rw [h.read hs, hv]; rfl
theorem updF_at (f : ByteArray → Option (List UInt8)) (s : ByteArray) (v : List UInt8) : updF f s v s = some v := by simp [updF]
set_option maxRecDepth 100000 in
theorem pointKeeps_sl (hA : ErrA ad g) (hs : Mem g w []) {a0 a1 a3 : Option Addr} {n0 n1 n3 c0 c1 c3 : Nat} {la lb : List UInt8} {at_ : Int} {picks : List Int} (h0 : Came g (.slice a0 n0 c0) (bytesL la)) (h1 : Came g (.slice a1 n1 c1) (bytesL lb)) (h3 : Came g (.slice a3 n3 c3) (intsL picks))
    (e0 : n0 = la.length) (e1 : n1 = lb.length) (e3 : n3 = picks.length) : Calls Tryd.prog 10 #[.slice a0 n0 c0, .slice a1 n1 c1, .int .i64 at_, .slice a3 n3 c3] w (Ret fun v w' => v = .bool true ∧ Mem g w' []) := by
  subst e0 e1 e3
  have hE := hA.disk
  have hv2 : validB (newN (nm1 112)).data.toList = true := by decide +kernel
  have hv1 : validB (nm1 112).data.toList = true := by decide +kernel
  refine calls_cw Tryd.func10 rfl rfl ?_
  skip
  refine cw_seq ?_
  refine cw_region ?_
  first | refine lw_val rfl (run_assign (v := .bool _) rfl) ?_
  refine lw_nil ?_
  refine cw_seq ?_
  refine cw_region ?_
  refine lw_call rfl en24 (first8_sl hs) ?_
  clear hs
  rintro _ w ⟨rfl, hs⟩
  first | refine lw_val rfl (run_assign (v := .bool _) rfl) ?_
  refine lw_nil ?_
  refine cw_seq ?_
  refine cw_seq ?_
  refine cw_region ?_
  first | refine lw_val rfl (run_move (v := .bool _) rfl) ?_
  refine lw_val rfl (run_not rfl) ?_
  refine lw_nil ?_
  refine cw_iff rfl (not_f (rfl)) ?_
  refine cw_skip ?_
  refine cw_seq ?_
  refine cw_seq ?_
  refine cw_region ?_
  first | refine lw_val rfl (run_move (v := .slice _ _ _) rfl) ?_
  refine lw_val rfl (run_lenS Tryd.underlying30 rfl) ?_
  refine lw_val rfl (run_gtr rfl rfl) ?_
  first | refine lw_val rfl (run_move (v := .bool _) rfl) ?_
  refine lw_split (t := _) (d := 26) rfl ?_ ?_
  · intro h25
    have g25 := of_decide_eq_true h25
    refine lw_off rfl rfl rfl h25 ?_
    refine lw_off rfl rfl rfl h25 ?_
    refine lw_off rfl rfl rfl h25 ?_
    first | refine lw_val rfl (run_pickT (v := .bool _) rfl h25 rfl) ?_
    first | refine lw_val rfl (run_move (v := .bool _) rfl) ?_
    refine lw_off rfl rfl rfl rfl ?_
    refine lw_off rfl rfl rfl rfl ?_
    refine lw_off rfl rfl rfl rfl ?_
    first | refine lw_val rfl (run_pickT (v := .bool _) rfl rfl rfl) ?_
    first | refine lw_val rfl (run_move (v := .bool _) rfl) ?_
    refine lw_off rfl rfl rfl rfl ?_
    refine lw_off rfl rfl rfl rfl ?_
    first | refine lw_val rfl (run_pickT (v := .bool _) rfl rfl rfl) ?_
    refine lw_nil ?_
    refine cw_ift rfl rfl ?_
    refine cw_seq ?_
    refine cw_region ?_
    first | refine lw_val rfl (run_move (v := .bool _) rfl) ?_
    first | refine lw_val rfl (run_assign (v := .bool _) rfl) ?_
    refine lw_nil ?_
    refine cw_ret ?_
    refine res1 (v := .bool _) rfl rfl ?_
    exact ⟨_, rfl, rfl, hs⟩
  · intro h25
    have g25 := of_decide_eq_false h25
    refine lw_on rfl rfl h25 ?_
    first | refine lw_val rfl (run_move (v := .slice _ _ _) rfl) ?_
    refine lw_on rfl rfl h25 ?_
    refine lw_val rfl (run_lenS Tryd.underlying30 rfl) ?_
    refine lw_on rfl rfl h25 ?_
    refine lw_val rfl (run_gtr rfl rfl) ?_
    first | refine lw_val rfl (run_pickF (v := .bool _) rfl h25 rfl) ?_
    first | refine lw_val rfl (run_move (v := .bool _) rfl) ?_
    refine lw_split (t := _) (d := 31) rfl ?_ ?_
    · intro h29
      have g29 := of_decide_eq_true h29
      refine lw_off rfl rfl rfl h29 ?_
      refine lw_off rfl rfl rfl h29 ?_
      refine lw_off rfl rfl rfl h29 ?_
      first | refine lw_val rfl (run_pickT (v := .bool _) rfl h29 rfl) ?_
      first | refine lw_val rfl (run_move (v := .bool _) rfl) ?_
      refine lw_off rfl rfl rfl rfl ?_
      refine lw_off rfl rfl rfl rfl ?_
      first | refine lw_val rfl (run_pickT (v := .bool _) rfl rfl rfl) ?_
      refine lw_nil ?_
      refine cw_ift rfl rfl ?_
      refine cw_seq ?_
      refine cw_region ?_
      first | refine lw_val rfl (run_move (v := .bool _) rfl) ?_
      first | refine lw_val rfl (run_assign (v := .bool _) rfl) ?_
      refine lw_nil ?_
      refine cw_ret ?_
      refine res1 (v := .bool _) rfl rfl ?_
      exact ⟨_, rfl, rfl, hs⟩
    · intro h29
      have g29 := of_decide_eq_false h29
      refine lw_on rfl rfl h29 ?_
      first | refine lw_val rfl (run_move (v := .slice _ _ _) rfl) ?_
      refine lw_on rfl rfl h29 ?_
      refine lw_val rfl (run_lenS Tryd.underlying22 rfl) ?_
      refine lw_on rfl rfl h29 ?_
      refine lw_val rfl (run_gtr rfl rfl) ?_
      first | refine lw_val rfl (run_pickF (v := .bool _) rfl h29 rfl) ?_
      first | refine lw_val rfl (run_move (v := .bool _) rfl) ?_
      refine lw_split (t := _) (d := 36) rfl ?_ ?_
      · intro h34
        have g34 := of_decide_eq_true h34
        refine lw_off rfl rfl rfl h34 ?_
        refine lw_off rfl rfl rfl h34 ?_
        first | refine lw_val rfl (run_pickT (v := .bool _) rfl h34 rfl) ?_
        refine lw_nil ?_
        refine cw_ift rfl rfl ?_
        refine cw_seq ?_
        refine cw_region ?_
        first | refine lw_val rfl (run_move (v := .bool _) rfl) ?_
        first | refine lw_val rfl (run_assign (v := .bool _) rfl) ?_
        refine lw_nil ?_
        refine cw_ret ?_
        refine res1 (v := .bool _) rfl rfl ?_
        exact ⟨_, rfl, rfl, hs⟩
      · intro h34
        have g34 := of_decide_eq_false h34
        refine lw_on rfl rfl h34 ?_
        first | refine lw_val rfl (run_move (v := .bool _) rfl) ?_
        refine lw_on rfl rfl h34 ?_
        refine lw_val rfl (run_not rfl) ?_
        first | refine lw_val rfl (run_pickF (v := .bool _) rfl h34 rfl) ?_
        refine lw_nil ?_
        refine cw_iff rfl (not_f (rfl)) ?_
        refine cw_skip ?_
        refine cw_seq ?_
        refine cw_region ?_
        refine lw_call rfl en17 (newd_sl hs (r := 2000) (by decide) (by decide)) ?_
        clear hs
        rintro _ w ⟨p, rfl, hs⟩
        obtain ⟨k1, e1, hw1, hr1, hd1⟩ := (PtI.start (N := nN) (B := 204) (r := 2000) (by decide)).write (s := nm1 112) (b := la) (by simp) (nN_new 112) hv1 hv2 (by omega) (by decide)
        obtain ⟨rfl, hu1, ha1, hp1⟩ := hd1.resolve_right (fun h => h.2.2.1 rfl)
        have hc1 := Dk.write_calls hw1
        simp only [Dk.empty] at hc1 hr1
        first | refine lw_val rfl (run_move (v := .tuple _) rfl) ?_
        first | refine lw_val rfl (run_extract (v := .pointer (some _)) rfl rfl) ?_ | refine lw_val rfl (run_extract (v := .pointer none) rfl rfl) ?_
        first | refine lw_val rfl (run_extract (v := errV ad _) rfl rfl) ?_ | refine lw_val rfl (run_extract (v := .nilIface) rfl rfl) ?_
        first | refine lw_val rfl (run_assign (v := .pointer (some _)) rfl) ?_ | refine lw_val rfl (run_assign (v := .pointer none) rfl) ?_
        first | refine lw_val rfl (run_assign (v := errV ad _) rfl) ?_ | refine lw_val rfl (run_assign (v := .nilIface) rfl) ?_
        refine lw_nil ?_
        refine cw_seq ?_
        refine cw_seq ?_
        refine cw_region ?_
        first | refine lw_val rfl (run_move (v := .pointer (some _)) rfl) ?_ | refine lw_val rfl (run_move (v := .pointer none) rfl) ?_
        refine lw_val rfl (run_eqpn Tryd.underlying25 rfl rfl) ?_
        first | refine lw_val rfl (run_move (v := .bool _) rfl) ?_
        refine lw_on rfl rfl rfl ?_
        first | refine lw_val rfl (run_move (v := errV ad _) rfl) ?_ | refine lw_val rfl (run_move (v := .nilIface) rfl) ?_
        refine lw_on rfl rfl rfl ?_
        first | refine lw_val rfl (run_neerrn (ad := ad) rfl) ?_ | refine lw_val rfl (run_nenn rfl) ?_
        first | refine lw_val rfl (run_pickF (v := .bool _) rfl rfl rfl) ?_
        first | refine lw_val rfl (run_move (v := .bool _) rfl) ?_
        refine lw_on rfl rfl (rfl) ?_
        first | refine lw_val rfl (run_move (v := .pointer (some _)) rfl) ?_ | refine lw_val rfl (run_move (v := .pointer none) rfl) ?_
        refine lw_on rfl rfl (rfl) ?_
        first | refine lw_val rfl (run_move (v := .slice _ _ _) rfl) ?_
        refine lw_on rfl rfl (rfl) ?_
        refine lw_call rfl en25 (write_sl hE (by decide) hs (nm1 112) (by decide) (h0.rd _) rfl (by omega) hw1) ?_
        clear hs
        rintro _ w ⟨rfl, hs⟩
        obtain ⟨hok1, _⟩ := hs.openD
        have pt1 := hp1 hok1
        refine lw_on rfl rfl (rfl) ?_
        first | refine lw_val rfl (run_neerrn (ad := ad) rfl) ?_ | refine lw_val rfl (run_nenn rfl) ?_
        first | refine lw_val rfl (run_pickF (v := .bool _) rfl (rfl) rfl) ?_
        refine lw_nil ?_
        refine cw_iff rfl (rfl) ?_
        refine cw_skip ?_
        refine cw_seq ?_
        refine cw_region ?_
        first | refine lw_val rfl (run_move (v := .pointer (some _)) rfl) ?_ | refine lw_val rfl (run_move (v := .pointer none) rfl) ?_
        refine lw_call rfl en26 (pread_sl hE hs (nm1 112) (isP pt1 (by simp) (updF_at _ _ _))) ?_
        clear hs
        rintro _ w ⟨a59, c59, rfl, hs⟩
        first | refine lw_val rfl (run_move (v := .tuple _) rfl) ?_
        first | refine lw_val rfl (run_extract (v := .slice _ _ _) rfl rfl) ?_
        first | refine lw_val rfl (run_extract (v := errV ad _) rfl rfl) ?_ | refine lw_val rfl (run_extract (v := .nilIface) rfl rfl) ?_
        first | refine lw_val rfl (run_assign (v := .slice _ _ _) rfl) ?_
        first | refine lw_val rfl (run_assign (v := errV ad _) rfl) ?_ | refine lw_val rfl (run_assign (v := .nilIface) rfl) ?_
        refine lw_nil ?_
        refine cw_seq ?_
        refine cw_seq ?_
        refine cw_region ?_
        first | refine lw_val rfl (run_move (v := errV ad _) rfl) ?_ | refine lw_val rfl (run_move (v := .nilIface) rfl) ?_
        first | refine lw_val rfl (run_neerrn (ad := ad) rfl) ?_ | refine lw_val rfl (run_nenn rfl) ?_
        first | refine lw_val rfl (run_move (v := .bool _) rfl) ?_
        refine lw_on rfl rfl (rfl) ?_
        first | refine lw_val rfl (run_move (v := .slice _ _ _) rfl) ?_
        refine lw_on rfl rfl (rfl) ?_
        first | refine lw_val rfl (run_move (v := .slice _ _ _) rfl) ?_
        refine lw_on rfl rfl (rfl) ?_
        refine lw_call rfl en27 (sameB_sl hs (la := la) (lb := la) (hs.rdOwn 0 rfl) (h0.rd _) rfl rfl (by omega)) ?_
        clear hs
        rintro _ w ⟨rfl, hs⟩
        refine lw_on rfl rfl (rfl) ?_
        refine lw_val rfl (run_not rfl) ?_
        first | refine lw_val rfl (run_pickF (v := .bool _) rfl (rfl) rfl) ?_
        refine lw_nil ?_
        refine cw_iff rfl (not_f (decide_eq_true rfl)) ?_
        refine cw_skip ?_
        refine cw_seq ?_
        replace hs := hs.tail
        refine cw_region ?_
        first | refine lw_val rfl (run_move (v := .int .i64 _) rfl) ?_
        refine lw_call rfl en16 (number_sl hs at_ 12 (by decide)) ?_
        clear hs
        rintro _ w ⟨r, hr, rfl, hs⟩
        first | refine lw_val rfl (run_assign (v := .int .i64 _) rfl) ?_
        refine lw_nil ?_
        refine cw_seq ?_
        refine cw_region ?_
        first | refine lw_val rfl (run_move (v := .pointer (some _)) rfl) ?_ | refine lw_val rfl (run_move (v := .pointer none) rfl) ?_
        first | refine lw_val rfl (run_move (v := .int .i64 _) rfl) ?_
        refine lw_call rfl en29 (arm_sl hs r (by omega)) ?_
        clear hs
        rintro _ w ⟨rfl, hs⟩
        obtain ⟨hok2, _⟩ := hs.openD
        have pt2 := pt1.arm hok2
        obtain ⟨k2, e2, hw2, hr2, hd2⟩ := pt2.write (s := nm1 112) (b := lb) (by simp) (nN_new 112) hv1 hv2 (by omega) (by show 2 * 1 * 204 + 204 ≤ e1.room; rw [hr1]; decide)
        have hc2 := Dk.write_calls hw2
        simp only at hc2 hr2
        have hdn : e2.down = decide ((k2 : Int) = 110) := by rcases hd2 with ⟨h1, h2, _⟩ | ⟨h1, h2, _⟩ <;> (rw [h1, h2]; rfl)
        refine lw_nil ?_
        refine cw_seq ?_
        refine cw_region ?_
        first | refine lw_val rfl (run_move (v := .pointer (some _)) rfl) ?_ | refine lw_val rfl (run_move (v := .pointer none) rfl) ?_
        first | refine lw_val rfl (run_move (v := .slice _ _ _) rfl) ?_
        refine lw_call rfl en25 (write_sl (d := { e1 with armed := r }) hE (show e1.calls < 900000 by omega) hs (nm1 112) (by decide) (h1.rd _) rfl (by omega) hw2) ?_
        clear hs
        rintro _ w ⟨rfl, hs⟩
        first | refine lw_val rfl (run_assign (v := errV ad _) rfl) ?_ | refine lw_val rfl (run_assign (v := .nilIface) rfl) ?_
        refine lw_nil ?_
        refine cw_seq ?_
        refine cw_region ?_
        first | refine lw_val rfl (run_move (v := .pointer (some _)) rfl) ?_ | refine lw_val rfl (run_move (v := .pointer none) rfl) ?_
        refine lw_call rfl en30 (down_sl hs) ?_
        clear hs
        rintro _ w ⟨rfl, hs⟩
        first | refine lw_val rfl (run_assign (v := .bool _) rfl) ?_
        refine lw_nil ?_
        refine cw_seq ?_
        refine cw_seq ?_
        refine cw_region ?_
        first | refine lw_val rfl (run_move (v := .bool _) rfl) ?_
        first | refine lw_val rfl (run_move (v := errV ad _) rfl) ?_ | refine lw_val rfl (run_move (v := .nilIface) rfl) ?_
        refine lw_call rfl en20 (isA_sl hA hs (d := k2) (by rcases hd2 with ⟨h1, _⟩ | ⟨h1, _⟩ <;> (rw [h1]; decide)) 110) ?_
        clear hs
        rintro _ w ⟨rfl, hs⟩
        refine lw_val rfl (run_neb Tryd.underlying4 rfl rfl) ?_
        first | refine lw_val rfl (run_move (v := .bool _) rfl) ?_
        refine lw_on rfl rfl (by rw [hdn]; simp) ?_
        first | refine lw_val rfl (run_move (v := .bool _) rfl) ?_
        refine lw_on rfl rfl (by rw [hdn]; simp) ?_
        refine lw_val rfl (run_not rfl) ?_
        refine lw_on rfl rfl (by rw [hdn]; simp) ?_
        first | refine lw_val rfl (run_move (v := .bool _) rfl) ?_
        refine lw_split (t := _) (d := 87) rfl ?_ ?_
        · intro h79
          replace h79 := not_b h79
          obtain ⟨hk2, _, _, hx2⟩ := hd2.resolve_right (fun h => by rw [h.2.1] at h79; cases h79)
          refine lw_on rfl rfl (not_t h79) ?_
          first | refine lw_val rfl (run_move (v := errV ad _) rfl) ?_ | refine lw_val rfl (run_move (v := .nilIface) rfl) ?_
          refine lw_on rfl rfl (not_t h79) ?_
          first | refine lw_val rfl (run_neerrn (ad := ad) rfl) ?_ | refine lw_val rfl (run_nenn rfl) ?_
          refine lw_on rfl rfl (by rw [hdn]; simp) ?_
          first | refine lw_val rfl (run_pickT (v := .bool _) rfl (not_t h79) rfl) ?_
          first | refine lw_val rfl (run_pickF (v := .bool _) rfl (by rw [hdn]; simp) rfl) ?_
          refine lw_nil ?_
          refine cw_iff rfl (by rw [hk2]; rfl) ?_
          refine cw_skip ?_
          refine cw_seq ?_
          obtain ⟨hok3, _⟩ := hs.openD
          refine cw_region ?_
          first | refine lw_val rfl (run_move (v := .pointer (some _)) rfl) ?_ | refine lw_val rfl (run_move (v := .pointer none) rfl) ?_
          first | refine lw_val rfl (run_move (v := .slice _ _ _) rfl) ?_
          refine lw_call rfl en33 (crash_sl hs (show e2.calls < 1000000 by omega) (picks := picks) (h3.rd _) rfl (by omega)) ?_
          clear hs
          rintro _ w ⟨rfl, hs⟩
          obtain ⟨v, F, ptv, hF, hv⟩ : ∃ v F, PtI nN 204 F (e2.crash picks) ∧ F (nm1 112) = some v ∧ v = lb := ⟨lb, _, (hx2 hok3).crash picks, updF_at _ _ _, rfl⟩
          refine lw_nil ?_
          obtain ⟨k4, e4, hw4, hr4, hd4⟩ := ptv.write (s := nm1 112) (b := la) (by simp) (nN_new 112) hv1 hv2 (by omega) (by show 2 * 1 * 204 + 204 ≤ e2.room; rw [hr2, hr1]; decide)
          obtain ⟨rfl, hu4, ha4, hp4⟩ := hd4.resolve_right (fun h => h.2.2.1 rfl)
          refine cw_seq ?_
          refine cw_region ?_
          first | refine lw_val rfl (run_move (v := .pointer (some _)) rfl) ?_ | refine lw_val rfl (run_move (v := .pointer none) rfl) ?_
          refine lw_call rfl en26 (pread_sl hE hs (nm1 112) (isP ptv (by simp) hF)) ?_
          clear hs
          rintro _ w ⟨a97, c97, rfl, hs⟩
          have hvl : v.length ≤ 200 := by rw [hv]; omega
          first | refine lw_val rfl (run_move (v := .tuple _) rfl) ?_
          first | refine lw_val rfl (run_extract (v := .slice _ _ _) rfl rfl) ?_
          first | refine lw_val rfl (run_extract (v := errV ad _) rfl rfl) ?_ | refine lw_val rfl (run_extract (v := .nilIface) rfl rfl) ?_
          first | refine lw_val rfl (run_assign (v := .slice _ _ _) rfl) ?_
          first | refine lw_val rfl (run_assign (v := errV ad _) rfl) ?_ | refine lw_val rfl (run_assign (v := .nilIface) rfl) ?_
          refine lw_nil ?_
          refine cw_seq ?_
          refine cw_seq ?_
          refine cw_region ?_
          first | refine lw_val rfl (run_move (v := errV ad _) rfl) ?_ | refine lw_val rfl (run_move (v := .nilIface) rfl) ?_
          first | refine lw_val rfl (run_neerrn (ad := ad) rfl) ?_ | refine lw_val rfl (run_nenn rfl) ?_
          first | refine lw_val rfl (run_move (v := .bool _) rfl) ?_
          refine lw_on rfl rfl (rfl) ?_
          first | refine lw_val rfl (run_move (v := .slice _ _ _) rfl) ?_
          refine lw_on rfl rfl (rfl) ?_
          first | refine lw_val rfl (run_move (v := .slice _ _ _) rfl) ?_
          refine lw_on rfl rfl (rfl) ?_
          refine lw_call rfl en27 (sameB_sl hs (la := v) (lb := la) (hs.rdOwn 0 rfl) (h0.rd _) rfl rfl (by omega)) ?_
          clear hs
          rintro _ w ⟨rfl, hs⟩
          refine lw_on rfl rfl (rfl) ?_
          refine lw_val rfl (run_not rfl) ?_
          refine lw_on rfl rfl (rfl) ?_
          first | refine lw_val rfl (run_move (v := .bool _) rfl) ?_
          refine lw_split (t := _) (d := 107) rfl ?_ ?_
          · intro h105
            replace h105 := not_b h105
            refine lw_on rfl rfl (not_t h105) ?_
            first | refine lw_val rfl (run_move (v := .slice _ _ _) rfl) ?_
            refine lw_on rfl rfl (not_t h105) ?_
            first | refine lw_val rfl (run_move (v := .slice _ _ _) rfl) ?_
            refine lw_on rfl rfl (not_t h105) ?_
            refine lw_call rfl en27 (sameB_sl hs (la := v) (lb := lb) (hs.rdOwn 0 rfl) (h1.rd _) rfl rfl (by omega)) ?_
            clear hs
            rintro _ w ⟨rfl, hs⟩
            refine lw_on rfl rfl (not_t h105) ?_
            refine lw_val rfl (run_not rfl) ?_
            refine lw_on rfl rfl (rfl) ?_
            first | refine lw_val rfl (run_pickT (v := .bool _) rfl (not_t h105) rfl) ?_
            first | refine lw_val rfl (run_pickF (v := .bool _) rfl (rfl) rfl) ?_
            first | refine lw_val rfl (run_move (v := .bool _) rfl) ?_
            refine lw_on rfl rfl (not_f (decide_eq_true hv)) ?_
            first | refine lw_val rfl (run_move (v := .bool _) rfl) ?_
            refine lw_on rfl rfl (not_f (decide_eq_true hv)) ?_
            refine lw_val rfl (run_not rfl) ?_
            refine lw_on rfl rfl (not_f (decide_eq_true hv)) ?_
            first | refine lw_val rfl (run_move (v := .bool _) rfl) ?_
            refine lw_on rfl rfl (not_t h79) ?_
            first | refine lw_val rfl (run_move (v := .slice _ _ _) rfl) ?_
            refine lw_on rfl rfl (not_t h79) ?_
            first | refine lw_val rfl (run_move (v := .slice _ _ _) rfl) ?_
            refine lw_on rfl rfl (not_t h79) ?_
            refine lw_call rfl en27 (sameB_sl hs (la := v) (lb := lb) (hs.rdOwn 0 rfl) (h1.rd _) rfl rfl (by omega)) ?_
            clear hs
            rintro _ w ⟨rfl, hs⟩
            refine lw_on rfl rfl (not_t h79) ?_
            refine lw_val rfl (run_not rfl) ?_
            refine lw_on rfl rfl (not_f (decide_eq_true hv)) ?_
            first | refine lw_val rfl (run_pickT (v := .bool _) rfl (not_t h79) rfl) ?_
            first | refine lw_val rfl (run_pickF (v := .bool _) rfl (not_f (decide_eq_true hv)) rfl) ?_
            refine lw_nil ?_
            refine cw_iff rfl (not_f (decide_eq_true hv)) ?_
            refine cw_skip ?_
            refine cw_seq ?_
            refine cw_seq ?_
            refine cw_region ?_
            first | refine lw_val rfl (run_move (v := .pointer (some _)) rfl) ?_ | refine lw_val rfl (run_move (v := .pointer none) rfl) ?_
            first | refine lw_val rfl (run_move (v := .slice _ _ _) rfl) ?_
            refine lw_call rfl en25 (write_sl (d := e2.crash picks) (L := [own _ _]) hE (show e2.calls < 900000 by omega) (hs.arr [1, 0] 2 (by decide)) (nm1 112) (by decide) (h0.rd _) rfl (by omega) hw4) ?_
            clear hs
            rintro _ w ⟨rfl, hs⟩
            obtain ⟨hok4, _⟩ := hs.openD
            have pt4 := hp4 hok4
            first | refine lw_val rfl (run_neerrn (ad := ad) rfl) ?_ | refine lw_val rfl (run_nenn rfl) ?_
            refine lw_nil ?_
            refine cw_iff rfl (rfl) ?_
            refine cw_skip ?_
            refine cw_seq ?_
            refine cw_region ?_
            first | refine lw_val rfl (run_move (v := .pointer (some _)) rfl) ?_ | refine lw_val rfl (run_move (v := .pointer none) rfl) ?_
            refine lw_call rfl en26 (pread_sl hE hs (nm1 112) (isP pt4 (by simp) (updF_at _ _ _))) ?_
            clear hs
            rintro _ w ⟨a130, c130, rfl, hs⟩
            first | refine lw_val rfl (run_move (v := .tuple _) rfl) ?_
            first | refine lw_val rfl (run_extract (v := .slice _ _ _) rfl rfl) ?_
            first | refine lw_val rfl (run_extract (v := errV ad _) rfl rfl) ?_ | refine lw_val rfl (run_extract (v := .nilIface) rfl rfl) ?_
            first | refine lw_val rfl (run_assign (v := .slice _ _ _) rfl) ?_
            first | refine lw_val rfl (run_assign (v := errV ad _) rfl) ?_ | refine lw_val rfl (run_assign (v := .nilIface) rfl) ?_
            refine lw_nil ?_
            refine cw_seq ?_
            refine cw_region ?_
            first | refine lw_val rfl (run_move (v := errV ad _) rfl) ?_ | refine lw_val rfl (run_move (v := .nilIface) rfl) ?_
            first | refine lw_val rfl (run_eqerrn (ad := ad) rfl) ?_ | refine lw_val rfl (run_eqnn rfl) ?_
            first | refine lw_val rfl (run_move (v := .bool _) rfl) ?_
            refine lw_on rfl rfl (rfl) ?_
            first | refine lw_val rfl (run_move (v := .slice _ _ _) rfl) ?_
            refine lw_on rfl rfl (rfl) ?_
            first | refine lw_val rfl (run_move (v := .slice _ _ _) rfl) ?_
            refine lw_on rfl rfl (rfl) ?_
            refine lw_call rfl en27 (sameB_sl hs (la := la) (lb := la) (hs.rdOwn 0 rfl) (h0.rd _) rfl rfl (by omega)) ?_
            clear hs
            rintro _ w ⟨rfl, hs⟩
            first | refine lw_val rfl (run_pickT (v := .bool _) rfl (rfl) rfl) ?_
            first | refine lw_val rfl (run_assign (v := .bool _) rfl) ?_
            refine lw_nil ?_
            refine cw_ret ?_
            refine res1 (v := .bool _) rfl rfl ?_
            exact ⟨_, rfl, ret_b (decide_eq_true rfl), hs.nil⟩
          · intro h105
            replace h105 := not_c h105
            refine lw_off rfl rfl rfl (not_f h105) ?_
            refine lw_off rfl rfl rfl (not_f h105) ?_
            refine lw_off rfl rfl rfl (not_f h105) ?_
            refine lw_off rfl rfl rfl (not_f h105) ?_
            refine lw_on rfl rfl (rfl) ?_
            first | refine lw_val rfl (run_pickF (v := .bool _) rfl (not_f h105) rfl) ?_
            first | refine lw_val rfl (run_pickF (v := .bool _) rfl (rfl) rfl) ?_
            first | refine lw_val rfl (run_move (v := .bool _) rfl) ?_
            refine lw_on rfl rfl rfl ?_
            first | refine lw_val rfl (run_move (v := .bool _) rfl) ?_
            refine lw_on rfl rfl rfl ?_
            refine lw_val rfl (run_not rfl) ?_
            refine lw_on rfl rfl rfl ?_
            first | refine lw_val rfl (run_move (v := .bool _) rfl) ?_
            refine lw_on rfl rfl (not_t h79) ?_
            first | refine lw_val rfl (run_move (v := .slice _ _ _) rfl) ?_
            refine lw_on rfl rfl (not_t h79) ?_
            first | refine lw_val rfl (run_move (v := .slice _ _ _) rfl) ?_
            refine lw_on rfl rfl (not_t h79) ?_
            refine lw_call rfl en27 (sameB_sl hs (la := v) (lb := lb) (hs.rdOwn 0 rfl) (h1.rd _) rfl rfl (by omega)) ?_
            clear hs
            rintro _ w ⟨rfl, hs⟩
            refine lw_on rfl rfl (not_t h79) ?_
            refine lw_val rfl (run_not rfl) ?_
            refine lw_on rfl rfl rfl ?_
            first | refine lw_val rfl (run_pickT (v := .bool _) rfl (not_t h79) rfl) ?_
            first | refine lw_val rfl (run_pickF (v := .bool _) rfl rfl rfl) ?_
            refine lw_nil ?_
            refine cw_iff rfl (not_f (decide_eq_true hv)) ?_
            refine cw_skip ?_
            refine cw_seq ?_
            refine cw_seq ?_
            refine cw_region ?_
            first | refine lw_val rfl (run_move (v := .pointer (some _)) rfl) ?_ | refine lw_val rfl (run_move (v := .pointer none) rfl) ?_
            first | refine lw_val rfl (run_move (v := .slice _ _ _) rfl) ?_
            refine lw_call rfl en25 (write_sl (d := e2.crash picks) (L := [own _ _]) hE (show e2.calls < 900000 by omega) (hs.arr [1, 0] 2 (by decide)) (nm1 112) (by decide) (h0.rd _) rfl (by omega) hw4) ?_
            clear hs
            rintro _ w ⟨rfl, hs⟩
            obtain ⟨hok4, _⟩ := hs.openD
            have pt4 := hp4 hok4
            first | refine lw_val rfl (run_neerrn (ad := ad) rfl) ?_ | refine lw_val rfl (run_nenn rfl) ?_
            refine lw_nil ?_
            refine cw_iff rfl (rfl) ?_
            refine cw_skip ?_
            refine cw_seq ?_
            refine cw_region ?_
            first | refine lw_val rfl (run_move (v := .pointer (some _)) rfl) ?_ | refine lw_val rfl (run_move (v := .pointer none) rfl) ?_
            refine lw_call rfl en26 (pread_sl hE hs (nm1 112) (isP pt4 (by simp) (updF_at _ _ _))) ?_
            clear hs
            rintro _ w ⟨a130, c130, rfl, hs⟩
            first | refine lw_val rfl (run_move (v := .tuple _) rfl) ?_
            first | refine lw_val rfl (run_extract (v := .slice _ _ _) rfl rfl) ?_
            first | refine lw_val rfl (run_extract (v := errV ad _) rfl rfl) ?_ | refine lw_val rfl (run_extract (v := .nilIface) rfl rfl) ?_
            first | refine lw_val rfl (run_assign (v := .slice _ _ _) rfl) ?_
            first | refine lw_val rfl (run_assign (v := errV ad _) rfl) ?_ | refine lw_val rfl (run_assign (v := .nilIface) rfl) ?_
            refine lw_nil ?_
            refine cw_seq ?_
            refine cw_region ?_
            first | refine lw_val rfl (run_move (v := errV ad _) rfl) ?_ | refine lw_val rfl (run_move (v := .nilIface) rfl) ?_
            first | refine lw_val rfl (run_eqerrn (ad := ad) rfl) ?_ | refine lw_val rfl (run_eqnn rfl) ?_
            first | refine lw_val rfl (run_move (v := .bool _) rfl) ?_
            refine lw_on rfl rfl (rfl) ?_
            first | refine lw_val rfl (run_move (v := .slice _ _ _) rfl) ?_
            refine lw_on rfl rfl (rfl) ?_
            first | refine lw_val rfl (run_move (v := .slice _ _ _) rfl) ?_
            refine lw_on rfl rfl (rfl) ?_
            refine lw_call rfl en27 (sameB_sl hs (la := la) (lb := la) (hs.rdOwn 0 rfl) (h0.rd _) rfl rfl (by omega)) ?_
            clear hs
            rintro _ w ⟨rfl, hs⟩
            first | refine lw_val rfl (run_pickT (v := .bool _) rfl (rfl) rfl) ?_
            first | refine lw_val rfl (run_assign (v := .bool _) rfl) ?_
            refine lw_nil ?_
            refine cw_ret ?_
            refine res1 (v := .bool _) rfl rfl ?_
            exact ⟨_, rfl, ret_b (decide_eq_true rfl), hs.nil⟩
        · intro h79
          replace h79 := not_c h79
          obtain ⟨hk2, _, _, hx2⟩ := hd2.resolve_left (fun h => by rw [h.2.1] at h79; cases h79)
          refine lw_off rfl rfl rfl (not_f h79) ?_
          refine lw_off rfl rfl rfl (not_f h79) ?_
          refine lw_on rfl rfl (by rw [hdn]; simp) ?_
          first | refine lw_val rfl (run_pickF (v := .bool _) rfl (not_f h79) rfl) ?_
          first | refine lw_val rfl (run_pickF (v := .bool _) rfl (by rw [hdn]; simp) rfl) ?_
          refine lw_nil ?_
          refine cw_iff rfl rfl ?_
          refine cw_skip ?_
          refine cw_seq ?_
          obtain ⟨hok3, _⟩ := hs.openD
          refine cw_region ?_
          first | refine lw_val rfl (run_move (v := .pointer (some _)) rfl) ?_ | refine lw_val rfl (run_move (v := .pointer none) rfl) ?_
          first | refine lw_val rfl (run_move (v := .slice _ _ _) rfl) ?_
          refine lw_call rfl en33 (crash_sl hs (show e2.calls < 1000000 by omega) (picks := picks) (h3.rd _) rfl (by omega)) ?_
          clear hs
          rintro _ w ⟨rfl, hs⟩
          obtain ⟨v, F, ptv, hF, hv⟩ : ∃ v F, PtI nN 204 F (e2.crash picks) ∧ F (nm1 112) = some v ∧ (v = la ∨ v = lb) := by rcases hx2 hok3 picks with h | h; exact ⟨la, _, h, updF_at _ _ _, .inl rfl⟩; exact ⟨lb, _, h, updF_at _ _ _, .inr rfl⟩
          refine lw_nil ?_
          obtain ⟨k4, e4, hw4, hr4, hd4⟩ := ptv.write (s := nm1 112) (b := la) (by simp) (nN_new 112) hv1 hv2 (by omega) (by show 2 * 1 * 204 + 204 ≤ e2.room; rw [hr2, hr1]; decide)
          obtain ⟨rfl, hu4, ha4, hp4⟩ := hd4.resolve_right (fun h => h.2.2.1 rfl)
          refine cw_seq ?_
          refine cw_region ?_
          first | refine lw_val rfl (run_move (v := .pointer (some _)) rfl) ?_ | refine lw_val rfl (run_move (v := .pointer none) rfl) ?_
          refine lw_call rfl en26 (pread_sl hE hs (nm1 112) (isP ptv (by simp) hF)) ?_
          clear hs
          rintro _ w ⟨a97, c97, rfl, hs⟩
          have hvl : v.length ≤ 200 := by rcases hv with h | h <;> (rw [h]; omega)
          first | refine lw_val rfl (run_move (v := .tuple _) rfl) ?_
          first | refine lw_val rfl (run_extract (v := .slice _ _ _) rfl rfl) ?_
          first | refine lw_val rfl (run_extract (v := errV ad _) rfl rfl) ?_ | refine lw_val rfl (run_extract (v := .nilIface) rfl rfl) ?_
          first | refine lw_val rfl (run_assign (v := .slice _ _ _) rfl) ?_
          first | refine lw_val rfl (run_assign (v := errV ad _) rfl) ?_ | refine lw_val rfl (run_assign (v := .nilIface) rfl) ?_
          refine lw_nil ?_
          refine cw_seq ?_
          refine cw_seq ?_
          refine cw_region ?_
          first | refine lw_val rfl (run_move (v := errV ad _) rfl) ?_ | refine lw_val rfl (run_move (v := .nilIface) rfl) ?_
          first | refine lw_val rfl (run_neerrn (ad := ad) rfl) ?_ | refine lw_val rfl (run_nenn rfl) ?_
          first | refine lw_val rfl (run_move (v := .bool _) rfl) ?_
          refine lw_on rfl rfl (rfl) ?_
          first | refine lw_val rfl (run_move (v := .slice _ _ _) rfl) ?_
          refine lw_on rfl rfl (rfl) ?_
          first | refine lw_val rfl (run_move (v := .slice _ _ _) rfl) ?_
          refine lw_on rfl rfl (rfl) ?_
          refine lw_call rfl en27 (sameB_sl hs (la := v) (lb := la) (hs.rdOwn 0 rfl) (h0.rd _) rfl rfl (by omega)) ?_
          clear hs
          rintro _ w ⟨rfl, hs⟩
          refine lw_on rfl rfl (rfl) ?_
          refine lw_val rfl (run_not rfl) ?_
          refine lw_on rfl rfl (rfl) ?_
          first | refine lw_val rfl (run_move (v := .bool _) rfl) ?_
          refine lw_split (t := _) (d := 107) rfl ?_ ?_
          · intro h105
            replace h105 := not_b h105
            refine lw_on rfl rfl (not_t h105) ?_
            first | refine lw_val rfl (run_move (v := .slice _ _ _) rfl) ?_
            refine lw_on rfl rfl (not_t h105) ?_
            first | refine lw_val rfl (run_move (v := .slice _ _ _) rfl) ?_
            refine lw_on rfl rfl (not_t h105) ?_
            refine lw_call rfl en27 (sameB_sl hs (la := v) (lb := lb) (hs.rdOwn 0 rfl) (h1.rd _) rfl rfl (by omega)) ?_
            clear hs
            rintro _ w ⟨rfl, hs⟩
            refine lw_on rfl rfl (not_t h105) ?_
            refine lw_val rfl (run_not rfl) ?_
            refine lw_on rfl rfl (rfl) ?_
            first | refine lw_val rfl (run_pickT (v := .bool _) rfl (not_t h105) rfl) ?_
            first | refine lw_val rfl (run_pickF (v := .bool _) rfl (rfl) rfl) ?_
            first | refine lw_val rfl (run_move (v := .bool _) rfl) ?_
            refine lw_on rfl rfl (not_f (decide_eq_true (hv.resolve_left (of_decide_eq_false h105)))) ?_
            first | refine lw_val rfl (run_move (v := .bool _) rfl) ?_
            refine lw_on rfl rfl (not_f (decide_eq_true (hv.resolve_left (of_decide_eq_false h105)))) ?_
            refine lw_val rfl (run_not rfl) ?_
            refine lw_on rfl rfl (not_f (decide_eq_true (hv.resolve_left (of_decide_eq_false h105)))) ?_
            first | refine lw_val rfl (run_move (v := .bool _) rfl) ?_
            refine lw_off rfl rfl rfl (not_f h79) ?_
            refine lw_off rfl rfl rfl (not_f h79) ?_
            refine lw_off rfl rfl rfl (not_f h79) ?_
            refine lw_off rfl rfl rfl (not_f h79) ?_
            refine lw_on rfl rfl (not_f (decide_eq_true (hv.resolve_left (of_decide_eq_false h105)))) ?_
            first | refine lw_val rfl (run_pickF (v := .bool _) rfl (not_f h79) rfl) ?_
            first | refine lw_val rfl (run_pickF (v := .bool _) rfl (not_f (decide_eq_true (hv.resolve_left (of_decide_eq_false h105)))) rfl) ?_
            refine lw_nil ?_
            refine cw_iff rfl rfl ?_
            refine cw_skip ?_
            refine cw_seq ?_
            refine cw_seq ?_
            refine cw_region ?_
            first | refine lw_val rfl (run_move (v := .pointer (some _)) rfl) ?_ | refine lw_val rfl (run_move (v := .pointer none) rfl) ?_
            first | refine lw_val rfl (run_move (v := .slice _ _ _) rfl) ?_
            refine lw_call rfl en25 (write_sl (d := e2.crash picks) (L := [own _ _]) hE (show e2.calls < 900000 by omega) (hs.arr [1, 0] 2 (by decide)) (nm1 112) (by decide) (h0.rd _) rfl (by omega) hw4) ?_
            clear hs
            rintro _ w ⟨rfl, hs⟩
            obtain ⟨hok4, _⟩ := hs.openD
            have pt4 := hp4 hok4
            first | refine lw_val rfl (run_neerrn (ad := ad) rfl) ?_ | refine lw_val rfl (run_nenn rfl) ?_
            refine lw_nil ?_
            refine cw_iff rfl (rfl) ?_
            refine cw_skip ?_
            refine cw_seq ?_
            refine cw_region ?_
            first | refine lw_val rfl (run_move (v := .pointer (some _)) rfl) ?_ | refine lw_val rfl (run_move (v := .pointer none) rfl) ?_
            refine lw_call rfl en26 (pread_sl hE hs (nm1 112) (isP pt4 (by simp) (updF_at _ _ _))) ?_
            clear hs
            rintro _ w ⟨a130, c130, rfl, hs⟩
            first | refine lw_val rfl (run_move (v := .tuple _) rfl) ?_
            first | refine lw_val rfl (run_extract (v := .slice _ _ _) rfl rfl) ?_
            first | refine lw_val rfl (run_extract (v := errV ad _) rfl rfl) ?_ | refine lw_val rfl (run_extract (v := .nilIface) rfl rfl) ?_
            first | refine lw_val rfl (run_assign (v := .slice _ _ _) rfl) ?_
            first | refine lw_val rfl (run_assign (v := errV ad _) rfl) ?_ | refine lw_val rfl (run_assign (v := .nilIface) rfl) ?_
            refine lw_nil ?_
            refine cw_seq ?_
            refine cw_region ?_
            first | refine lw_val rfl (run_move (v := errV ad _) rfl) ?_ | refine lw_val rfl (run_move (v := .nilIface) rfl) ?_
            first | refine lw_val rfl (run_eqerrn (ad := ad) rfl) ?_ | refine lw_val rfl (run_eqnn rfl) ?_
            first | refine lw_val rfl (run_move (v := .bool _) rfl) ?_
            refine lw_on rfl rfl (rfl) ?_
            first | refine lw_val rfl (run_move (v := .slice _ _ _) rfl) ?_
            refine lw_on rfl rfl (rfl) ?_
            first | refine lw_val rfl (run_move (v := .slice _ _ _) rfl) ?_
            refine lw_on rfl rfl (rfl) ?_
            refine lw_call rfl en27 (sameB_sl hs (la := la) (lb := la) (hs.rdOwn 0 rfl) (h0.rd _) rfl rfl (by omega)) ?_
            clear hs
            rintro _ w ⟨rfl, hs⟩
            first | refine lw_val rfl (run_pickT (v := .bool _) rfl (rfl) rfl) ?_
            first | refine lw_val rfl (run_assign (v := .bool _) rfl) ?_
            refine lw_nil ?_
            refine cw_ret ?_
            refine res1 (v := .bool _) rfl rfl ?_
            exact ⟨_, rfl, ret_b (decide_eq_true rfl), hs.nil⟩
          · intro h105
            replace h105 := not_c h105
            refine lw_off rfl rfl rfl (not_f h105) ?_
            refine lw_off rfl rfl rfl (not_f h105) ?_
            refine lw_off rfl rfl rfl (not_f h105) ?_
            refine lw_off rfl rfl rfl (not_f h105) ?_
            refine lw_on rfl rfl (rfl) ?_
            first | refine lw_val rfl (run_pickF (v := .bool _) rfl (not_f h105) rfl) ?_
            first | refine lw_val rfl (run_pickF (v := .bool _) rfl (rfl) rfl) ?_
            first | refine lw_val rfl (run_move (v := .bool _) rfl) ?_
            refine lw_on rfl rfl rfl ?_
            first | refine lw_val rfl (run_move (v := .bool _) rfl) ?_
            refine lw_on rfl rfl rfl ?_
            refine lw_val rfl (run_not rfl) ?_
            refine lw_on rfl rfl rfl ?_
            first | refine lw_val rfl (run_move (v := .bool _) rfl) ?_
            refine lw_off rfl rfl rfl (not_f h79) ?_
            refine lw_off rfl rfl rfl (not_f h79) ?_
            refine lw_off rfl rfl rfl (not_f h79) ?_
            refine lw_off rfl rfl rfl (not_f h79) ?_
            refine lw_on rfl rfl rfl ?_
            first | refine lw_val rfl (run_pickF (v := .bool _) rfl (not_f h79) rfl) ?_
            first | refine lw_val rfl (run_pickF (v := .bool _) rfl rfl rfl) ?_
            refine lw_nil ?_
            refine cw_iff rfl rfl ?_
            refine cw_skip ?_
            refine cw_seq ?_
            refine cw_seq ?_
            refine cw_region ?_
            first | refine lw_val rfl (run_move (v := .pointer (some _)) rfl) ?_ | refine lw_val rfl (run_move (v := .pointer none) rfl) ?_
            first | refine lw_val rfl (run_move (v := .slice _ _ _) rfl) ?_
            refine lw_call rfl en25 (write_sl (d := e2.crash picks) (L := [own _ _]) hE (show e2.calls < 900000 by omega) (hs.arr [1, 0] 2 (by decide)) (nm1 112) (by decide) (h0.rd _) rfl (by omega) hw4) ?_
            clear hs
            rintro _ w ⟨rfl, hs⟩
            obtain ⟨hok4, _⟩ := hs.openD
            have pt4 := hp4 hok4
            first | refine lw_val rfl (run_neerrn (ad := ad) rfl) ?_ | refine lw_val rfl (run_nenn rfl) ?_
            refine lw_nil ?_
            refine cw_iff rfl (rfl) ?_
            refine cw_skip ?_
            refine cw_seq ?_
            refine cw_region ?_
            first | refine lw_val rfl (run_move (v := .pointer (some _)) rfl) ?_ | refine lw_val rfl (run_move (v := .pointer none) rfl) ?_
            refine lw_call rfl en26 (pread_sl hE hs (nm1 112) (isP pt4 (by simp) (updF_at _ _ _))) ?_
            clear hs
            rintro _ w ⟨a130, c130, rfl, hs⟩
            first | refine lw_val rfl (run_move (v := .tuple _) rfl) ?_
            first | refine lw_val rfl (run_extract (v := .slice _ _ _) rfl rfl) ?_
            first | refine lw_val rfl (run_extract (v := errV ad _) rfl rfl) ?_ | refine lw_val rfl (run_extract (v := .nilIface) rfl rfl) ?_
            first | refine lw_val rfl (run_assign (v := .slice _ _ _) rfl) ?_
            first | refine lw_val rfl (run_assign (v := errV ad _) rfl) ?_ | refine lw_val rfl (run_assign (v := .nilIface) rfl) ?_
            refine lw_nil ?_
            refine cw_seq ?_
            refine cw_region ?_
            first | refine lw_val rfl (run_move (v := errV ad _) rfl) ?_ | refine lw_val rfl (run_move (v := .nilIface) rfl) ?_
            first | refine lw_val rfl (run_eqerrn (ad := ad) rfl) ?_ | refine lw_val rfl (run_eqnn rfl) ?_
            first | refine lw_val rfl (run_move (v := .bool _) rfl) ?_
            refine lw_on rfl rfl (rfl) ?_
            first | refine lw_val rfl (run_move (v := .slice _ _ _) rfl) ?_
            refine lw_on rfl rfl (rfl) ?_
            first | refine lw_val rfl (run_move (v := .slice _ _ _) rfl) ?_
            refine lw_on rfl rfl (rfl) ?_
            refine lw_call rfl en27 (sameB_sl hs (la := la) (lb := la) (hs.rdOwn 0 rfl) (h0.rd _) rfl rfl (by omega)) ?_
            clear hs
            rintro _ w ⟨rfl, hs⟩
            first | refine lw_val rfl (run_pickT (v := .bool _) rfl (rfl) rfl) ?_
            first | refine lw_val rfl (run_assign (v := .bool _) rfl) ?_
            refine lw_nil ?_
            refine cw_ret ?_
            refine res1 (v := .bool _) rfl rfl ?_
            exact ⟨_, rfl, ret_b (decide_eq_true rfl), hs.nil⟩
set_option maxRecDepth 100000 in
theorem pointFirst_sl (hA : ErrA ad g) (hs : Mem g w []) {a0 a2 : Option Addr} {n0 n2 c0 c2 : Nat} {lb : List UInt8} {at_ : Int} {picks : List Int} (h0 : Came g (.slice a0 n0 c0) (bytesL lb)) (h2 : Came g (.slice a2 n2 c2) (intsL picks))
    (e0 : n0 = lb.length) (e2 : n2 = picks.length) : Calls Tryd.prog 9 #[.slice a0 n0 c0, .int .i64 at_, .slice a2 n2 c2] w (Ret fun v w' => v = .bool true ∧ Mem g w' []) := by
  subst e0 e2
  have hE := hA.disk
  have hv2 : validB (newN (nm1 113)).data.toList = true := by decide +kernel
  have hv1 : validB (nm1 113).data.toList = true := by decide +kernel
  have pt0 : PtI [nm1 113] 204 (fun _ => none) (Dk.empty 1000) := PtI.start (by decide)
  refine calls_cw Tryd.func9 rfl rfl ?_
  skip
  refine cw_seq ?_
  refine cw_region ?_
  first | refine lw_val rfl (run_assign (v := .bool _) rfl) ?_
  refine lw_nil ?_
  refine cw_seq ?_
  refine cw_region ?_
  refine lw_call rfl en24 (first8_sl hs) ?_
  clear hs
  rintro _ w ⟨rfl, hs⟩
  first | refine lw_val rfl (run_assign (v := .bool _) rfl) ?_
  refine lw_nil ?_
  refine cw_seq ?_
  refine cw_seq ?_
  refine cw_region ?_
  first | refine lw_val rfl (run_move (v := .bool _) rfl) ?_
  refine lw_val rfl (run_not rfl) ?_
  refine lw_nil ?_
  refine cw_iff rfl (not_f (rfl)) ?_
  refine cw_skip ?_
  refine cw_seq ?_
  refine cw_seq ?_
  refine cw_region ?_
  first | refine lw_val rfl (run_move (v := .slice _ _ _) rfl) ?_
  refine lw_val rfl (run_lenS Tryd.underlying30 rfl) ?_
  refine lw_val rfl (run_gtr rfl rfl) ?_
  first | refine lw_val rfl (run_move (v := .bool _) rfl) ?_
  refine lw_split (t := _) (d := 21) rfl ?_ ?_
  · intro h20
    have g20 := of_decide_eq_true h20
    refine lw_off rfl rfl rfl h20 ?_
    refine lw_off rfl rfl rfl h20 ?_
    refine lw_off rfl rfl rfl h20 ?_
    first | refine lw_val rfl (run_pickT (v := .bool _) rfl h20 rfl) ?_
    first | refine lw_val rfl (run_move (v := .bool _) rfl) ?_
    refine lw_off rfl rfl rfl rfl ?_
    refine lw_off rfl rfl rfl rfl ?_
    first | refine lw_val rfl (run_pickT (v := .bool _) rfl rfl rfl) ?_
    refine lw_nil ?_
    refine cw_ift rfl rfl ?_
    refine cw_seq ?_
    refine cw_region ?_
    first | refine lw_val rfl (run_move (v := .bool _) rfl) ?_
    first | refine lw_val rfl (run_assign (v := .bool _) rfl) ?_
    refine lw_nil ?_
    refine cw_ret ?_
    refine res1 (v := .bool _) rfl rfl ?_
    exact ⟨_, rfl, rfl, hs⟩
  · intro h20
    have g20 := of_decide_eq_false h20
    refine lw_on rfl rfl h20 ?_
    first | refine lw_val rfl (run_move (v := .slice _ _ _) rfl) ?_
    refine lw_on rfl rfl h20 ?_
    refine lw_val rfl (run_lenS Tryd.underlying22 rfl) ?_
    refine lw_on rfl rfl h20 ?_
    refine lw_val rfl (run_gtr rfl rfl) ?_
    first | refine lw_val rfl (run_pickF (v := .bool _) rfl h20 rfl) ?_
    first | refine lw_val rfl (run_move (v := .bool _) rfl) ?_
    refine lw_split (t := _) (d := 26) rfl ?_ ?_
    · intro h24
      have g24 := of_decide_eq_true h24
      refine lw_off rfl rfl rfl h24 ?_
      refine lw_off rfl rfl rfl h24 ?_
      first | refine lw_val rfl (run_pickT (v := .bool _) rfl h24 rfl) ?_
      refine lw_nil ?_
      refine cw_ift rfl rfl ?_
      refine cw_seq ?_
      refine cw_region ?_
      first | refine lw_val rfl (run_move (v := .bool _) rfl) ?_
      first | refine lw_val rfl (run_assign (v := .bool _) rfl) ?_
      refine lw_nil ?_
      refine cw_ret ?_
      refine res1 (v := .bool _) rfl rfl ?_
      exact ⟨_, rfl, rfl, hs⟩
    · intro h24
      have g24 := of_decide_eq_false h24
      refine lw_on rfl rfl h24 ?_
      first | refine lw_val rfl (run_move (v := .bool _) rfl) ?_
      refine lw_on rfl rfl h24 ?_
      refine lw_val rfl (run_not rfl) ?_
      first | refine lw_val rfl (run_pickF (v := .bool _) rfl h24 rfl) ?_
      refine lw_nil ?_
      refine cw_iff rfl (not_f (rfl)) ?_
      refine cw_skip ?_
      refine cw_seq ?_
      refine cw_region ?_
      refine lw_call rfl en17 (newd_sl hs (r := 1000) (by decide) (by decide)) ?_
      clear hs
      rintro _ w ⟨p, rfl, hs⟩
      first | refine lw_val rfl (run_move (v := .tuple _) rfl) ?_
      first | refine lw_val rfl (run_extract (v := .pointer (some _)) rfl rfl) ?_ | refine lw_val rfl (run_extract (v := .pointer none) rfl rfl) ?_
      first | refine lw_val rfl (run_extract (v := errV ad _) rfl rfl) ?_ | refine lw_val rfl (run_extract (v := .nilIface) rfl rfl) ?_
      first | refine lw_val rfl (run_assign (v := .pointer (some _)) rfl) ?_ | refine lw_val rfl (run_assign (v := .pointer none) rfl) ?_
      first | refine lw_val rfl (run_assign (v := errV ad _) rfl) ?_ | refine lw_val rfl (run_assign (v := .nilIface) rfl) ?_
      refine lw_nil ?_
      refine cw_seq ?_
      refine cw_seq ?_
      refine cw_region ?_
      first | refine lw_val rfl (run_move (v := .pointer (some _)) rfl) ?_ | refine lw_val rfl (run_move (v := .pointer none) rfl) ?_
      refine lw_val rfl (run_eqpn Tryd.underlying25 rfl rfl) ?_
      first | refine lw_val rfl (run_move (v := .bool _) rfl) ?_
      refine lw_on rfl rfl rfl ?_
      first | refine lw_val rfl (run_move (v := errV ad _) rfl) ?_ | refine lw_val rfl (run_move (v := .nilIface) rfl) ?_
      refine lw_on rfl rfl rfl ?_
      first | refine lw_val rfl (run_neerrn (ad := ad) rfl) ?_ | refine lw_val rfl (run_nenn rfl) ?_
      first | refine lw_val rfl (run_pickF (v := .bool _) rfl rfl rfl) ?_
      refine lw_nil ?_
      refine cw_iff rfl (rfl) ?_
      refine cw_skip ?_
      refine cw_seq ?_
      refine cw_region ?_
      first | refine lw_val rfl (run_move (v := .pointer (some _)) rfl) ?_ | refine lw_val rfl (run_move (v := .pointer none) rfl) ?_
      refine lw_call rfl en26 (pread_sl hE hs (nm1 113) (pt0.read (by simp))) ?_
      clear hs
      rintro _ w ⟨a43, c43, rfl, hs⟩
      replace hs := hs.tail
      first | refine lw_val rfl (run_move (v := .tuple _) rfl) ?_
      first | refine lw_val rfl (run_extract (v := .slice _ _ _) rfl rfl) ?_
      first | refine lw_val rfl (run_extract (v := errV ad _) rfl rfl) ?_ | refine lw_val rfl (run_extract (v := .nilIface) rfl rfl) ?_
      first | refine lw_val rfl (run_assign (v := .slice _ _ _) rfl) ?_
      first | refine lw_val rfl (run_assign (v := errV ad _) rfl) ?_ | refine lw_val rfl (run_assign (v := .nilIface) rfl) ?_
      refine lw_nil ?_
      refine cw_seq ?_
      refine cw_region ?_
      first | refine lw_val rfl (run_move (v := .pointer (some _)) rfl) ?_ | refine lw_val rfl (run_move (v := .pointer none) rfl) ?_
      first | refine lw_val rfl (run_move (v := .int .i64 _) rfl) ?_
      refine lw_call rfl en16 (number_sl hs at_ 10 (by decide)) ?_
      clear hs
      rintro _ w ⟨r, hr, rfl, hs⟩
      refine lw_call rfl en29 (arm_sl hs r (by omega)) ?_
      clear hs
      rintro _ w ⟨rfl, hs⟩
      obtain ⟨hok1, _⟩ := hs.openD
      have pt1 := pt0.arm hok1
      obtain ⟨k2, e2, hw2, hr2, hd2⟩ := pt1.write (s := nm1 113) (b := lb) (by simp) (nN_new 113) hv1 hv2 (by omega) (by show 2 * 1 * 204 + 204 ≤ 1000; decide)
      have hc2 := Dk.write_calls hw2
      simp only [Dk.empty] at hc2
      refine lw_nil ?_
      refine cw_seq ?_
      refine cw_region ?_
      first | refine lw_val rfl (run_move (v := .pointer (some _)) rfl) ?_ | refine lw_val rfl (run_move (v := .pointer none) rfl) ?_
      first | refine lw_val rfl (run_move (v := .slice _ _ _) rfl) ?_
      refine lw_call rfl en25 (write_sl (d := { Dk.empty 1000 with armed := r }) hE (show 0 < 900000 by decide) hs (nm1 113) (by decide) (h0.rd _) rfl (by omega) hw2) ?_
      clear hs
      rintro _ w ⟨rfl, hs⟩
      first | refine lw_val rfl (run_assign (v := errV ad _) rfl) ?_ | refine lw_val rfl (run_assign (v := .nilIface) rfl) ?_
      refine lw_nil ?_
      refine cw_seq ?_
      obtain ⟨hok2, _⟩ := hs.openD
      obtain ⟨kr, x, hrd, hx⟩ : ∃ kr x, (e2.crash picks).pread (nm1 113) = (kr, x) ∧ (k2 = 0 ∧ kr = 0 ∧ x = lb ∨ k2 ≠ 0 ∧ (kr = 107 ∧ x = [] ∨ kr = 0 ∧ x = lb)) := by rcases hd2 with ⟨h1, _, _, h4⟩ | ⟨h1, _, _, h4⟩; exact ⟨0, lb, isP ((h4 hok2).crash picks) (by simp) (updF_at _ _ _), .inl ⟨h1, rfl, rfl⟩⟩; rcases h4 hok2 picks with h | h; exact ⟨107, [], h.read (by simp), .inr ⟨by omega, .inl ⟨rfl, rfl⟩⟩⟩; exact ⟨0, lb, isP h (by simp) (updF_at _ _ _), .inr ⟨by omega, .inr ⟨rfl, rfl⟩⟩⟩
      refine cw_region ?_
      first | refine lw_val rfl (run_move (v := .pointer (some _)) rfl) ?_ | refine lw_val rfl (run_move (v := .pointer none) rfl) ?_
      first | refine lw_val rfl (run_move (v := .slice _ _ _) rfl) ?_
      refine lw_call rfl en33 (crash_sl hs (show e2.calls < 1000000 by omega) (picks := picks) (h2.rd _) rfl (by omega)) ?_
      clear hs
      rintro _ w ⟨rfl, hs⟩
      refine lw_nil ?_
      refine cw_seq ?_
      refine cw_region ?_
      first | refine lw_val rfl (run_move (v := .pointer (some _)) rfl) ?_ | refine lw_val rfl (run_move (v := .pointer none) rfl) ?_
      refine lw_call rfl en26 (pread_sl hE hs (nm1 113) hrd) ?_
      clear hs
      rintro _ w ⟨a58, c58, rfl, hs⟩
      have hxl : x.length ≤ 200 := by rcases hx with ⟨_, _, h⟩ | ⟨_, ⟨_, h⟩ | ⟨_, h⟩⟩ <;> (rw [h]; first | omega | simp)
      first | refine lw_val rfl (run_move (v := .tuple _) rfl) ?_
      first | refine lw_val rfl (run_extract (v := .slice _ _ _) rfl rfl) ?_
      first | refine lw_val rfl (run_extract (v := errV ad _) rfl rfl) ?_ | refine lw_val rfl (run_extract (v := .nilIface) rfl rfl) ?_
      first | refine lw_val rfl (run_assign (v := .slice _ _ _) rfl) ?_
      first | refine lw_val rfl (run_assign (v := errV ad _) rfl) ?_ | refine lw_val rfl (run_assign (v := .nilIface) rfl) ?_
      refine lw_nil ?_
      refine cw_seq ?_
      refine cw_seq ?_
      refine cw_region ?_
      first | refine lw_val rfl (run_move (v := errV ad _) rfl) ?_ | refine lw_val rfl (run_move (v := .nilIface) rfl) ?_
      first | refine lw_val rfl (run_eqerrn (ad := ad) rfl) ?_ | refine lw_val rfl (run_eqnn rfl) ?_
      refine lw_nil ?_
      refine cw_if rfl ?_ ?_
      · intro h62
        have g62 := of_decide_eq_true h62
        have hz := of_decide_eq_true h62
        obtain ⟨_, hkr, hxb⟩ := hx.resolve_right (fun h => h.1 hz)
        refine cw_seq ?_
        refine cw_region ?_
        first | refine lw_val rfl (run_move (v := errV ad _) rfl) ?_ | refine lw_val rfl (run_move (v := .nilIface) rfl) ?_
        first | refine lw_val rfl (run_eqerrn (ad := ad) rfl) ?_ | refine lw_val rfl (run_eqnn rfl) ?_
        first | refine lw_val rfl (run_move (v := .bool _) rfl) ?_
        refine lw_on rfl rfl (decide_eq_true hkr) ?_
        first | refine lw_val rfl (run_move (v := .slice _ _ _) rfl) ?_
        refine lw_on rfl rfl (decide_eq_true hkr) ?_
        first | refine lw_val rfl (run_move (v := .slice _ _ _) rfl) ?_
        refine lw_on rfl rfl (decide_eq_true hkr) ?_
        refine lw_call rfl en27 (sameB_sl hs (la := x) (lb := lb) (hs.rdOwn 0 rfl) (h0.rd _) rfl rfl (by omega)) ?_
        clear hs
        rintro _ w ⟨rfl, hs⟩
        first | refine lw_val rfl (run_pickT (v := .bool _) rfl (decide_eq_true hkr) rfl) ?_
        first | refine lw_val rfl (run_assign (v := .bool _) rfl) ?_
        refine lw_nil ?_
        refine cw_ret ?_
        refine res1 (v := .bool _) rfl rfl ?_
        exact ⟨_, rfl, ret_b (decide_eq_true hxb), hs.nil⟩
      · intro h62
        have g62 := of_decide_eq_false h62
        have hz := of_decide_eq_false h62
        obtain ⟨_, hxx⟩ := hx.resolve_left (fun h => hz h.1)
        refine cw_skip ?_
        refine cw_seq ?_
        refine cw_region ?_
        first | refine lw_val rfl (run_move (v := errV ad _) rfl) ?_ | refine lw_val rfl (run_move (v := .nilIface) rfl) ?_
        refine lw_call rfl en20 (isA_sl hA hs (d := 107) (by decide) 107) ?_
        clear hs
        rintro _ w ⟨rfl, hs⟩
        first | refine lw_val rfl (run_move (v := .bool _) rfl) ?_
        refine lw_on rfl rfl (decide_eq_true rfl) ?_
        first | refine lw_val rfl (run_move (v := errV ad _) rfl) ?_ | refine lw_val rfl (run_move (v := .nilIface) rfl) ?_
        refine lw_on rfl rfl (decide_eq_true rfl) ?_
        refine lw_call rfl en20 (isA_sl hA hs (d := kr) (by rcases hxx with h | h <;> (rw [h.1]; decide)) 107) ?_
        clear hs
        rintro _ w ⟨rfl, hs⟩
        refine lw_on rfl rfl (decide_eq_true rfl) ?_
        first | refine lw_val rfl (run_move (v := .bool _) rfl) ?_
        refine lw_split (t := _) (d := 75) rfl ?_ ?_
        · intro h74
          refine lw_off rfl rfl rfl h74 ?_
          refine lw_off rfl rfl rfl h74 ?_
          refine lw_off rfl rfl rfl h74 ?_
          refine lw_offU rfl rfl rfl ?_
          refine lw_offU rfl rfl rfl ?_
          refine lw_offU rfl rfl rfl ?_
          refine lw_off rfl rfl rfl h74 ?_
          refine lw_on rfl rfl (decide_eq_true rfl) ?_
          first | refine lw_val rfl (run_pickT (v := .bool _) rfl h74 rfl) ?_
          first | refine lw_val rfl (run_pickT (v := .bool _) rfl (decide_eq_true rfl) rfl) ?_
          first | refine lw_val rfl (run_assign (v := .bool _) rfl) ?_
          refine lw_nil ?_
          refine cw_ret ?_
          refine res1 (v := .bool _) rfl rfl ?_
          exact ⟨_, rfl, rfl, hs.nil⟩
        · intro h74
          have hn := of_decide_eq_false h74
          obtain ⟨hkr, hxb⟩ := hxx.resolve_left (fun h => hn (by rw [h.1]; rfl))
          refine lw_on rfl rfl h74 ?_
          first | refine lw_val rfl (run_move (v := errV ad _) rfl) ?_ | refine lw_val rfl (run_move (v := .nilIface) rfl) ?_
          refine lw_on rfl rfl h74 ?_
          first | refine lw_val rfl (run_eqerrn (ad := ad) rfl) ?_ | refine lw_val rfl (run_eqnn rfl) ?_
          refine lw_on rfl rfl h74 ?_
          first | refine lw_val rfl (run_move (v := .bool _) rfl) ?_
          refine lw_on rfl rfl (decide_eq_true hkr) ?_
          first | refine lw_val rfl (run_move (v := .slice _ _ _) rfl) ?_
          refine lw_on rfl rfl (decide_eq_true hkr) ?_
          first | refine lw_val rfl (run_move (v := .slice _ _ _) rfl) ?_
          refine lw_on rfl rfl (decide_eq_true hkr) ?_
          refine lw_call rfl en27 (sameB_sl hs (la := x) (lb := lb) (hs.rdOwn 0 rfl) (h0.rd _) rfl rfl (by omega)) ?_
          clear hs
          rintro _ w ⟨rfl, hs⟩
          refine lw_on rfl rfl h74 ?_
          first | refine lw_val rfl (run_pickT (v := .bool _) rfl (decide_eq_true hkr) rfl) ?_
          refine lw_on rfl rfl (decide_eq_true rfl) ?_
          first | refine lw_val rfl (run_pickF (v := .bool _) rfl h74 rfl) ?_
          first | refine lw_val rfl (run_pickT (v := .bool _) rfl (decide_eq_true rfl) rfl) ?_
          first | refine lw_val rfl (run_assign (v := .bool _) rfl) ?_
          refine lw_nil ?_
          refine cw_ret ?_
          refine res1 (v := .bool _) rfl rfl ?_
          exact ⟨_, rfl, ret_b (decide_eq_true hxb), hs.nil⟩
end Go.Proofs.YthlnkniocklegaaDoor
