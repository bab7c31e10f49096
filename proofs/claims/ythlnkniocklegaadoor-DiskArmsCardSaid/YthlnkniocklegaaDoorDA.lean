/- The law DiskArms: the call at which the power goes does nothing, and no later one. -/
import Derived.Test.YthlnkniocklegaaDoorDD
namespace Go.Proofs.YthlnkniocklegaaDoor
set_option linter.all false
open Go.RowKit
attribute [local irreducible] errV
variable {g w : World} {L M : List HP} {ad : Nat → Addr} {p : Nat} {d : Dk}

/-- Behind k appends. -/
abbrev aD (k arm : Nat) (dn : Bool) (b : List UInt8) : Dk := ⟨100, [(nm1 97, 1)], [(nm1 97, 1)], [], 1, arm, dn, 2 + k, [(1, ⟨1, b, 0⟩)]⟩
theorem arms_step (k arm : Nat) (dn : Bool) (b : List UInt8) (u : UInt8) (hb : b.length = k) (hk : k ≤ 50) : ∃ kc k' arm' dn' b', (aD k arm dn b).append (nm1 97) [u] = (kc, aD k' arm' dn' b') ∧ b'.length = k' ∧
    (kc = 0 ∧ k' = k + 1 ∧ dn = false ∧ dn' = false ∧ (arm = 0 ∧ arm' = 0 ∨ 2 ≤ arm ∧ arm' = arm - 1) ∨ kc = 110 ∧ k' = k ∧ dn' = true ∧ (dn = true ∧ arm' = arm ∨ dn = false ∧ arm = 1 ∧ arm' = 0)) := by
  subst hb
  cases dn with
  | true => exact ⟨110, b.length, arm, true, b, Dk.append_down rfl _ _, rfl, .inr ⟨rfl, rfl, rfl, .inl ⟨rfl, rfl⟩⟩⟩
  | false =>
    have hu : ∀ a, ¬ ((aD b.length a false b).room < (aD b.length a false b).used + [u].length) := fun a => by show ¬ (100 < (b.length + 0) + 1); omega
    by_cases h0 : arm = 0
    · subst h0
      refine ⟨0, b.length + 1, 0, false, b ++ [u], ?_, by simp, .inl ⟨rfl, rfl, rfl, rfl, .inl ⟨rfl, rfl⟩⟩⟩
      exact Dk.append_up (d := aD b.length 0 false b) (i := 1) rfl rfl rfl (by have := hu 0; omega)
    · by_cases h1 : arm = 1
      · subst h1
        exact ⟨110, b.length, 0, true, b, rfl, rfl, .inr ⟨rfl, rfl, rfl, .inr ⟨rfl, rfl, rfl⟩⟩⟩
      · refine ⟨0, b.length + 1, arm - 1, false, b ++ [u], ?_, by simp, .inl ⟨rfl, rfl, rfl, rfl, .inr ⟨by omega, rfl⟩⟩⟩
        have hbg : (aD b.length arm false b).begin = (0, aD b.length (arm - 1) false b) := by simp [Dk.begin, h0, h1]
        have hf : (aD b.length arm false b).find (nm1 97) = (0, some 1, aD b.length (arm - 1) false b) := by
          unfold Dk.find
          rw [hbg]
          rfl
        simp only [Dk.append, hf]
        rw [if_neg (hu _)]
        rfl
theorem arms_crash (k arm : Nat) (dn : Bool) (b : List UInt8) (hb : b.length = k) : (aD k arm dn b).crash [0, (k : Int)] = oneD 100 (nm1 97) [(nm1 97, 1)] [] (2 + k) b k := by
  have h1 : pickN [0, (k : Int)] 1 (b.length - 0) = k := by
    show ((k : Int) % (((b.length - 0 : Nat) : Int) + 1)).toNat = k
    rw [hb, Nat.sub_zero, Int.emod_eq_of_lt (by omega) (by omega)]
    simp
  have := crash_one [0, (k : Int)] 100 (2 + k) 0 arm dn (nm1 97) b (t := k) (by rw [h1]; omega)
  rw [List.take_of_length_le (by omega), hb] at this
  exact this
theorem arms_read (k arm : Nat) (dn : Bool) (b : List UInt8) : (aD k arm dn b).readR (nm1 97) 0 0 = (if dn then 110 else 0, []) := by
  cases dn with
  | true => exact Dk.readR_down rfl _ _ _
  | false => exact (Dk.readR_at (d := aD k arm false b) (i := 1) (F := ⟨1, b, 0⟩) (o := 0) (m := 0) rfl (by simp [aget]) rfl (Nat.zero_le _)).trans (by simp)
set_option maxRecDepth 100000 in
theorem diskArms_sl (hA : ErrA ad g) (hs : Mem g w []) {n at_ : Int} : Calls Tryd.prog 5 #[.int .i64 n, .int .i64 at_] w (Ret fun v w' => v = .bool true ∧ Mem g w' []) := by
  have hE := hA.disk
  refine calls_cw Tryd.func5 rfl rfl ?_
  skip
  refine cw_seq ?_
  refine cw_region ?_
  first | refine lw_val rfl (run_assign (v := .bool _) rfl) ?_
  refine lw_nil ?_
  refine cw_seq ?_
  refine cw_region ?_
  refine lw_call rfl en15 (first4_sl hE hs) ?_
  clear hs
  rintro _ w ⟨rfl, hs⟩
  first | refine lw_val rfl (run_assign (v := .bool _) rfl) ?_
  refine lw_nil ?_
  refine cw_seq ?_
  refine cw_seq ?_
  refine cw_region ?_
  first | refine lw_val rfl (run_move (v := .bool _) rfl) ?_
  refine lw_val rfl (run_not rfl) ?_
  refine lw_nil ?_
  refine cw_iff rfl (not_f (rfl)) ?_
  refine cw_skip ?_
  refine cw_seq ?_
  refine cw_region ?_
  first | refine lw_val rfl (run_move (v := .int .i64 _) rfl) ?_
  refine lw_call rfl en16 (number_sl hs n 20 (by decide)) ?_
  clear hs
  rintro _ w ⟨r1, hr1, rfl, hs⟩
  refine lw_val rfl (run_add64 rfl rfl (c := ((r1 + 1 : Nat) : Int)) rfl (inI (by omega) (by omega))) ?_
  first | refine lw_val rfl (run_assign (v := .int .i64 _) rfl) ?_
  refine lw_nil ?_
  refine cw_seq ?_
  refine cw_region ?_
  first | refine lw_val rfl (run_move (v := .int .i64 _) rfl) ?_
  refine lw_call rfl en16 (number_sl hs at_ 30 (by decide)) ?_
  clear hs
  rintro _ w ⟨r2, hr2, rfl, hs⟩
  first | refine lw_val rfl (run_assign (v := .int .i64 _) rfl) ?_
  refine lw_nil ?_
  refine cw_seq ?_
  refine cw_region ?_
  refine lw_call rfl en17 (newd_sl hs (r := 100) (by decide) (by decide)) ?_
  clear hs
  rintro _ w ⟨p, rfl, hs⟩
  first | refine lw_val rfl (run_move (v := .tuple _) rfl) ?_
  first | refine lw_val rfl (run_extract (v := .pointer (some _)) rfl rfl) ?_ | refine lw_val rfl (run_extract (v := .pointer none) rfl rfl) ?_
  first | refine lw_val rfl (run_extract (v := errV ad _) rfl rfl) ?_ | refine lw_val rfl (run_extract (v := .nilIface) rfl rfl) ?_
  first | refine lw_val rfl (run_assign (v := .pointer (some _)) rfl) ?_ | refine lw_val rfl (run_assign (v := .pointer none) rfl) ?_
  first | refine lw_val rfl (run_assign (v := errV ad _) rfl) ?_ | refine lw_val rfl (run_assign (v := .nilIface) rfl) ?_
  refine lw_nil ?_
  refine cw_seq ?_
  refine cw_seq ?_
  refine cw_region ?_
  first | refine lw_val rfl (run_move (v := .pointer (some _)) rfl) ?_ | refine lw_val rfl (run_move (v := .pointer none) rfl) ?_
  refine lw_val rfl (run_eqpn Tryd.underlying25 rfl rfl) ?_
  first | refine lw_val rfl (run_move (v := .bool _) rfl) ?_
  refine lw_on rfl rfl rfl ?_
  first | refine lw_val rfl (run_move (v := errV ad _) rfl) ?_ | refine lw_val rfl (run_move (v := .nilIface) rfl) ?_
  refine lw_on rfl rfl rfl ?_
  first | refine lw_val rfl (run_neerrn (ad := ad) rfl) ?_ | refine lw_val rfl (run_nenn rfl) ?_
  first | refine lw_val rfl (run_pickF (v := .bool _) rfl rfl rfl) ?_
  first | refine lw_val rfl (run_move (v := .bool _) rfl) ?_
  refine lw_on rfl rfl (rfl) ?_
  first | refine lw_val rfl (run_move (v := .pointer (some _)) rfl) ?_ | refine lw_val rfl (run_move (v := .pointer none) rfl) ?_
  refine lw_on rfl rfl (rfl) ?_
  refine lw_call rfl en18 (create_sl hE hs (by decide) (nm1 97) (k := 0) (d2 := oneD 100 (nm1 97) [] [⟨nm1 97, ByteArray.empty, some 1⟩] 1 [] 0) (by kernel_rfl)) ?_
  clear hs
  rintro _ w ⟨rfl, hs⟩
  refine lw_on rfl rfl (rfl) ?_
  first | refine lw_val rfl (run_neerrn (ad := ad) rfl) ?_ | refine lw_val rfl (run_nenn rfl) ?_
  first | refine lw_val rfl (run_pickF (v := .bool _) rfl (rfl) rfl) ?_
  first | refine lw_val rfl (run_move (v := .bool _) rfl) ?_
  refine lw_on rfl rfl (rfl) ?_
  first | refine lw_val rfl (run_move (v := .pointer (some _)) rfl) ?_ | refine lw_val rfl (run_move (v := .pointer none) rfl) ?_
  refine lw_on rfl rfl (rfl) ?_
  refine lw_call rfl en28 (syncDir_sl hE hs (by decide) (k := 0) (d2 := aD 0 0 false []) (by kernel_rfl)) ?_
  clear hs
  rintro _ w ⟨rfl, hs⟩
  refine lw_on rfl rfl (rfl) ?_
  first | refine lw_val rfl (run_neerrn (ad := ad) rfl) ?_ | refine lw_val rfl (run_nenn rfl) ?_
  first | refine lw_val rfl (run_pickF (v := .bool _) rfl (rfl) rfl) ?_
  refine lw_nil ?_
  refine cw_iff rfl (rfl) ?_
  refine cw_skip ?_
  refine cw_seq ?_
  refine cw_region ?_
  first | refine lw_val rfl (run_move (v := .pointer (some _)) rfl) ?_ | refine lw_val rfl (run_move (v := .pointer none) rfl) ?_
  first | refine lw_val rfl (run_move (v := .int .i64 _) rfl) ?_
  refine lw_call rfl en29 (arm_sl hs r2 (by omega)) ?_
  clear hs
  rintro _ w ⟨rfl, hs⟩
  refine lw_nil ?_
  refine cw_seq ?_
  refine cw_region ?_
  first | refine lw_val rfl (run_assign (v := .int .i64 _) rfl) ?_
  refine lw_nil ?_
  refine cw_seq ?_
  refine cw_seq ?_
  refine cw_region ?_
  first | refine lw_val rfl (run_assign (v := .int .i64 _) rfl) ?_
  refine lw_nil ?_
  refine cw_block ?_
  refine cw_loop (X := Nat × Nat × Nat × Bool × List UInt8) [4, 8, 9, 10, 47, 48, 49, 50, 51, 52, 53, 54, 55, 56, 57, 58, 59, 60, 61, 62, 63, 64, 65, 66, 67, 68] (fun x => [(8, .int .i64 (x.2.1 : Nat)), (9, .int .i64 (x.1 : Nat))]) (fun x w => x.1 ≤ r1 + 1 ∧ x.2.2.2.2.length = x.2.1 ∧ (r2 = 0 ∧ x.2.1 = x.1 ∧ x.2.2.1 = 0 ∧ x.2.2.2.1 = false ∨ 0 < r2 ∧ x.1 < r2 ∧ x.2.1 = x.1 ∧ x.2.2.1 = r2 - x.1 ∧ x.2.2.2.1 = false ∨ 0 < r2 ∧ r2 ≤ x.1 ∧ x.2.1 = r2 - 1 ∧ x.2.2.2.1 = true) ∧ Mem g w [DiskC p (aD x.2.1 x.2.2.1 x.2.2.2.1 x.2.2.2.2)]) (fun x => r1 + 1 - x.1) ((0, 0, r2, false, [])) ?_ ?_ ?_
  · exact ⟨rfl, rfl, trivial⟩
  · exact ⟨Nat.zero_le _, rfl, (Nat.eq_zero_or_pos r2).elim (fun h => .inl ⟨h, rfl, h, rfl⟩) (fun h => .inr (.inl ⟨h, h, rfl, rfl, rfl⟩)), hs⟩
  clear hs
  rintro x ξ w hI
  obtain ⟨i, k, arm, dn, b⟩ := x
  obtain ⟨hi, hbl, hrel, hs⟩ := hI
  simp only at hi hbl hrel hs
  have hki : k ≤ 30 := by omega
  show cw _ _ _ _ _ _ (updL (mix _ ξ _) [(8, .int .i64 (k : Nat)), (9, .int .i64 (i : Nat))]) w
  refine cw_seq ?_
  refine cw_seq ?_
  refine cw_region ?_
  first | refine lw_val rfl (run_move (v := .int .i64 _) rfl) ?_
  first | refine lw_val rfl (run_move (v := .int .i64 _) rfl) ?_
  refine lw_val rfl (run_lss rfl rfl) ?_
  refine lw_nil ?_
  refine cw_if rfl ?_ ?_
  · intro h49
    have g49 := of_decide_eq_true h49
    obtain ⟨kc, k', arm', dn', b', happ, hbl', hst⟩ := arms_step k arm dn b (UInt8.ofNat i) hbl (by omega)
    refine cw_skip ?_
    refine cw_seq ?_
    refine cw_block ?_
    refine cw_seq ?_
    refine cw_region ?_
    first | refine lw_val rfl (run_move (v := .pointer (some _)) rfl) ?_ | refine lw_val rfl (run_move (v := .pointer none) rfl) ?_
    first | refine lw_val rfl (run_move (v := .int .i64 _) rfl) ?_
    refine lw_val rfl (run_convIn Tryd.underlying3 Tryd.underlying5 rfl (c := (((UInt8.ofNat i).toNat : Nat) : Int)) (wrapU8 (by omega))) ?_
    refine lw_buildSlice hs rfl ((bytesL [UInt8.ofNat i])) Tryd.underlying30 zs5 rfl (cells_one (bytesL_one _)) rfl rfl rfl ?_
    clear hs
    intro b55 w hs
    try simp only [List.set_cons_succ, List.set_cons_zero] at hs
    refine lw_call rfl en19 (append_sl (d := aD k arm dn b) (L := [cells b55 (bytesL [UInt8.ofNat i]) _]) hE (hs.arr [1, 0] 2 (by decide)) (show 2 + k < 1000000 by omega) (nm1 97) (x := [UInt8.ofNat i]) (Rd.cells (n := 1) 0 rfl rfl) rfl (show 1 ≤ 1073741824 by decide) happ) ?_
    clear hs
    rintro _ w ⟨rfl, hs⟩
    replace hs := hs.drop 1
    first | refine lw_val rfl (run_assign (v := errV ad _) rfl) ?_ | refine lw_val rfl (run_assign (v := .nilIface) rfl) ?_
    refine lw_nil ?_
    refine cw_seq ?_
    refine cw_region ?_
    first | refine lw_val rfl (run_move (v := errV ad _) rfl) ?_ | refine lw_val rfl (run_move (v := .nilIface) rfl) ?_
    first | refine lw_val rfl (run_eqerrn (ad := ad) rfl) ?_ | refine lw_val rfl (run_eqnn rfl) ?_
    refine lw_nil ?_
    refine cw_if rfl ?_ ?_
    · intro h58
      have g58 := of_decide_eq_true h58
      refine cw_region ?_
      first | refine lw_val rfl (run_move (v := .int .i64 _) rfl) ?_
      refine lw_val rfl (run_add64 rfl rfl (c := ((k' : Nat) : Int)) (by have := of_decide_eq_true h58; omega) (inI (by omega) (by omega))) ?_
      first | refine lw_val rfl (run_assign (v := .int .i64 _) rfl) ?_
      refine lw_nil ?_
      refine cw_region ?_
      first | refine lw_val rfl (run_move (v := .int .i64 _) rfl) ?_
      refine lw_val rfl (run_add64 rfl rfl rfl (inI (by omega) (by omega))) ?_
      first | refine lw_val rfl (run_assign (v := .int .i64 _) rfl) ?_
      refine lw_nil ?_
      have hz := of_decide_eq_true h58
      refine ⟨(i + 1, k', arm', dn', b'), by simp only; omega, ⟨by simp only; omega, hbl', ?_, hs⟩, ⟨rfl, rfl, trivial⟩, by repeat (first | exact Out.mix _ _ _ | refine Out.updo rfl ?_ | refine Out.upd rfl ?_ | refine Out.mixIn rfl ?_)⟩
      simp only
      rcases hst with ⟨_, h1, h2, h3, h4⟩ | ⟨h, _⟩
      · simp only [h2, h3] at hrel ⊢; simp at hrel ⊢; omega
      · omega
    · intro h58
      have g58 := of_decide_eq_false h58
      have hz := of_decide_eq_false h58
      have hdn : dn' = true := hst.elim (fun h => absurd h.1 hz) (fun h => h.2.2.1)
      refine cw_seq ?_
      refine cw_region ?_
      first | refine lw_val rfl (run_move (v := errV ad _) rfl) ?_ | refine lw_val rfl (run_move (v := .nilIface) rfl) ?_
      refine lw_call rfl en20 (isA_sl hA hs (d := kc) (by rcases hst with h | h <;> (rw [h.1]; decide)) 110) ?_
      clear hs
      rintro _ w ⟨rfl, hs⟩
      refine lw_val rfl (run_not rfl) ?_
      first | refine lw_val rfl (run_move (v := .bool _) rfl) ?_
      refine lw_on rfl rfl (not_f (decide_eq_true (by have := of_decide_eq_false h58; omega))) ?_
      first | refine lw_val rfl (run_move (v := .pointer (some _)) rfl) ?_ | refine lw_val rfl (run_move (v := .pointer none) rfl) ?_
      refine lw_on rfl rfl (not_f (decide_eq_true (by have := of_decide_eq_false h58; omega))) ?_
      refine lw_call rfl en30 (down_sl hs) ?_
      clear hs
      rintro _ w ⟨rfl, hs⟩
      refine lw_on rfl rfl (not_f (decide_eq_true (by have := of_decide_eq_false h58; omega))) ?_
      refine lw_val rfl (run_not rfl) ?_
      first | refine lw_val rfl (run_pickF (v := .bool _) rfl (not_f (decide_eq_true (by have := of_decide_eq_false h58; omega))) rfl) ?_
      refine lw_nil ?_
      refine cw_iff rfl (not_f (hdn)) ?_
      refine cw_skip ?_
      refine cw_region ?_
      first | refine lw_val rfl (run_move (v := .int .i64 _) rfl) ?_
      refine lw_val rfl (run_add64 rfl rfl rfl (inI (by omega) (by omega))) ?_
      first | refine lw_val rfl (run_assign (v := .int .i64 _) rfl) ?_
      refine lw_nil ?_
      have hz := of_decide_eq_false h58
      refine ⟨(i + 1, k', arm', dn', b'), by simp only; omega, ⟨by simp only; omega, hbl', ?_, hs⟩, ⟨show Value.int .i64 ((k : Nat) : Int) = Value.int .i64 ((k' : Nat) : Int) from by rw [show k' = k by omega], rfl, trivial⟩, by repeat (first | exact Out.mix _ _ _ | refine Out.updo rfl ?_ | refine Out.upd rfl ?_ | refine Out.mixIn rfl ?_)⟩
      simp only
      rcases hst with ⟨h, _⟩ | ⟨_, h1, h3, h4⟩
      · omega
      · rcases h4 with ⟨h4, h5⟩ | ⟨h4, h5, h6⟩ <;> (simp only [h4, h3] at hrel ⊢; simp at hrel ⊢; omega)
  · intro h49
    have g49 := of_decide_eq_false h49
    obtain rfl : i = r1 + 1 := by omega
    refine cw_exit rfl ?_
    refine cw_seq ?_
    refine cw_region ?_
    first | refine lw_val rfl (run_move (v := .int .i64 _) rfl) ?_
    first | refine lw_val rfl (run_assign (v := .int .i64 _) rfl) ?_
    refine lw_nil ?_
    refine cw_seq ?_
    refine cw_seq ?_
    refine cw_region ?_
    first | refine lw_val rfl (run_move (v := .int .i64 _) rfl) ?_
    refine lw_val rfl (run_gtr rfl rfl) ?_
    refine lw_nil ?_
    refine cw_if rfl ?_ ?_
    · intro h71
      have g71 := of_decide_eq_true h71
      have hdn : dn = decide ((r2 : Int) ≤ ((r1 + 1 : Nat) : Int)) := by rcases hrel with ⟨h, _⟩ | ⟨_, h, _, _, hd⟩ | ⟨_, h, _, hd⟩ <;> first | omega | (rw [hd]; exact (decide_eq_false (by omega)).symm) | (rw [hd]; exact (decide_eq_true (by omega)).symm)
      refine cw_region ?_
      first | refine lw_val rfl (run_move (v := .int .i64 _) rfl) ?_
      first | refine lw_val rfl (run_move (v := .int .i64 _) rfl) ?_
      refine lw_val rfl (run_sub64 rfl rfl (c := (r2 : Int) - 1) rfl (inI (by omega) (by omega))) ?_
      refine lw_val rfl (run_min rfl rfl) ?_
      rw [show min ((r1 + 1 : Nat) : Int) ((r2 : Int) - 1) = ((k : Nat) : Int) by omega]
      first | refine lw_val rfl (run_assign (v := .int .i64 _) rfl) ?_
      refine lw_nil ?_
      refine cw_seq ?_
      refine cw_seq ?_
      refine cw_region ?_
      first | refine lw_val rfl (run_move (v := .int .i64 _) rfl) ?_
      first | refine lw_val rfl (run_move (v := .int .i64 _) rfl) ?_
      refine lw_val rfl (run_nei rfl rfl) ?_
      first | refine lw_val rfl (run_move (v := .bool _) rfl) ?_
      refine lw_on rfl rfl (by simp) ?_
      first | refine lw_val rfl (run_move (v := .pointer (some _)) rfl) ?_ | refine lw_val rfl (run_move (v := .pointer none) rfl) ?_
      refine lw_on rfl rfl (by simp) ?_
      refine lw_call rfl en30 (down_sl hs) ?_
      clear hs
      rintro _ w ⟨rfl, hs⟩
      refine lw_on rfl rfl (by simp) ?_
      first | refine lw_val rfl (run_move (v := .int .i64 _) rfl) ?_
      refine lw_on rfl rfl (by simp) ?_
      refine lw_val rfl (run_gtr rfl rfl) ?_
      refine lw_on rfl rfl (by simp) ?_
      first | refine lw_val rfl (run_move (v := .bool _) rfl) ?_
      refine lw_on rfl rfl (decide_eq_true g71) ?_
      first | refine lw_val rfl (run_move (v := .int .i64 _) rfl) ?_
      refine lw_on rfl rfl (decide_eq_true g71) ?_
      first | refine lw_val rfl (run_move (v := .int .i64 _) rfl) ?_
      refine lw_on rfl rfl (decide_eq_true g71) ?_
      refine lw_val rfl (run_leq rfl rfl) ?_
      refine lw_on rfl rfl (by simp) ?_
      first | refine lw_val rfl (run_pickT (v := .bool _) rfl (decide_eq_true g71) rfl) ?_
      refine lw_on rfl rfl (by simp) ?_
      refine lw_val rfl (run_neb Tryd.underlying4 rfl rfl) ?_
      first | refine lw_val rfl (run_pickF (v := .bool _) rfl (by simp) rfl) ?_
      first | refine lw_val rfl (run_move (v := .bool _) rfl) ?_
      refine lw_on rfl rfl (by rw [hdn]; simp) ?_
      first | refine lw_val rfl (run_move (v := .pointer (some _)) rfl) ?_ | refine lw_val rfl (run_move (v := .pointer none) rfl) ?_
      refine lw_on rfl rfl (by rw [hdn]; simp) ?_
      refine lw_call rfl en31 (dcalls_sl hs) ?_
      clear hs
      rintro _ w ⟨rfl, hs⟩
      refine lw_on rfl rfl (by rw [hdn]; simp) ?_
      first | refine lw_val rfl (run_move (v := .int .i64 _) rfl) ?_
      refine lw_on rfl rfl (by rw [hdn]; simp) ?_
      refine lw_val rfl (run_add64 rfl rfl rfl (inI (by omega) (by omega))) ?_
      refine lw_on rfl rfl (by rw [hdn]; simp) ?_
      refine lw_val rfl (run_nei rfl rfl) ?_
      first | refine lw_val rfl (run_pickF (v := .bool _) rfl (by rw [hdn]; simp) rfl) ?_
      refine lw_nil ?_
      refine cw_iff rfl (by rw [decide_eq_true (show ((2 + k : Nat) : Int) = 2 + (k : Int) by omega)]; rfl) ?_
      refine cw_skip ?_
      refine cw_seq ?_
      refine cw_region ?_
      first | refine lw_val rfl (run_move (v := .pointer (some _)) rfl) ?_ | refine lw_val rfl (run_move (v := .pointer none) rfl) ?_
      refine lw_call rfl en32 (read_sl hE hs (nm1 97) (inI (by decide) (by decide)) (inI (by decide) (by decide)) (arms_read k arm dn b)) ?_
      clear hs
      rintro _ w ⟨ar, cr, rfl, hs⟩
      first | refine lw_val rfl (run_move (v := .tuple _) rfl) ?_
      first | refine lw_val rfl (run_extract (v := .slice _ _ _) rfl rfl) ?_
      first | refine lw_val rfl (run_extract (v := errV ad _) rfl rfl) ?_ | refine lw_val rfl (run_extract (v := .nilIface) rfl rfl) ?_
      first | refine lw_val rfl (run_assign (v := .slice _ _ _) rfl) ?_
      first | refine lw_val rfl (run_assign (v := errV ad _) rfl) ?_ | refine lw_val rfl (run_assign (v := .nilIface) rfl) ?_
      refine lw_nil ?_
      refine cw_seq ?_
      refine cw_seq ?_
      refine cw_region ?_
      first | refine lw_val rfl (run_move (v := .pointer (some _)) rfl) ?_ | refine lw_val rfl (run_move (v := .pointer none) rfl) ?_
      refine lw_call rfl en30 (down_sl (L := [own _ _]) (hs.arr [1, 0] 2 (by decide))) ?_
      clear hs
      rintro _ w ⟨rfl, hs⟩
      first | refine lw_val rfl (run_move (v := errV ad _) rfl) ?_ | refine lw_val rfl (run_move (v := .nilIface) rfl) ?_
      refine lw_call rfl en20 (isA_sl hA hs (d := if dn then 110 else 0) (by cases dn <;> decide) 110) ?_
      clear hs
      rintro _ w ⟨rfl, hs⟩
      refine lw_val rfl (run_neb Tryd.underlying4 rfl rfl) ?_
      refine lw_nil ?_
      refine cw_iff rfl (by cases dn <;> rfl) ?_
      refine cw_skip ?_
      refine cw_seq ?_
      refine cw_region ?_
      first | refine lw_val rfl (run_move (v := .pointer (some _)) rfl) ?_ | refine lw_val rfl (run_move (v := .pointer none) rfl) ?_
      first | refine lw_val rfl (run_move (v := .int .i64 _) rfl) ?_
      refine lw_buildSlice hs rfl ((intsL [0, ((k : Nat) : Int)])) Tryd.underlying22 zs3 rfl (cells_one (intsL_one _)) rfl rfl rfl ?_
      clear hs
      intro b110 w hs
      try simp only [List.set_cons_succ, List.set_cons_zero] at hs
      refine lw_call rfl en33 (crash_sl (d := aD k arm dn b) (L := [cells b110 (intsL [0, ((k : Nat) : Int)]) _, own _ _]) (hs.arr [1, 0, 2] 3 (by decide)) (show 2 + k < 1000000 by omega) (picks := [0, ((k : Nat) : Int)]) (Rd.cells (n := 2) 0 rfl rfl) rfl (show 2 ≤ 1000000000 by decide)) ?_
      clear hs
      rintro _ w ⟨rfl, hs⟩
      refine lw_nil ?_
      rw [arms_crash _ arm dn b hbl] at hs
      refine cw_seq ?_
      refine cw_region ?_
      first | refine lw_val rfl (run_move (v := .pointer (some _)) rfl) ?_ | refine lw_val rfl (run_move (v := .pointer none) rfl) ?_
      refine lw_call rfl en21 (len_sl hE hs (nm1 97) (one_lenR ..)) ?_
      clear hs
      rintro _ w ⟨rfl, hs⟩
      first | refine lw_val rfl (run_move (v := .tuple _) rfl) ?_
      first | refine lw_val rfl (run_extract (v := .int .i64 _) rfl rfl) ?_
      first | refine lw_val rfl (run_extract (v := errV ad _) rfl rfl) ?_ | refine lw_val rfl (run_extract (v := .nilIface) rfl rfl) ?_
      first | refine lw_val rfl (run_assign (v := .int .i64 _) rfl) ?_
      first | refine lw_val rfl (run_assign (v := errV ad _) rfl) ?_ | refine lw_val rfl (run_assign (v := .nilIface) rfl) ?_
      refine lw_nil ?_
      refine cw_seq ?_
      refine cw_region ?_
      first | refine lw_val rfl (run_move (v := .bool _) rfl) ?_
      first | refine lw_val rfl (run_move (v := .bool _) rfl) ?_
      refine lw_on rfl rfl (rfl) ?_
      first | refine lw_val rfl (run_move (v := .pointer (some _)) rfl) ?_ | refine lw_val rfl (run_move (v := .pointer none) rfl) ?_
      refine lw_on rfl rfl (rfl) ?_
      refine lw_call rfl en30 (down_sl hs) ?_
      clear hs
      rintro _ w ⟨rfl, hs⟩
      refine lw_on rfl rfl (rfl) ?_
      refine lw_val rfl (run_not rfl) ?_
      first | refine lw_val rfl (run_pickT (v := .bool _) rfl (rfl) rfl) ?_
      first | refine lw_val rfl (run_move (v := .bool _) rfl) ?_
      refine lw_on rfl rfl (not_t (rfl)) ?_
      first | refine lw_val rfl (run_move (v := errV ad _) rfl) ?_ | refine lw_val rfl (run_move (v := .nilIface) rfl) ?_
      refine lw_on rfl rfl (not_t (rfl)) ?_
      first | refine lw_val rfl (run_eqerrn (ad := ad) rfl) ?_ | refine lw_val rfl (run_eqnn rfl) ?_
      first | refine lw_val rfl (run_pickT (v := .bool _) rfl (not_t (rfl)) rfl) ?_
      first | refine lw_val rfl (run_move (v := .bool _) rfl) ?_
      refine lw_on rfl rfl (rfl) ?_
      first | refine lw_val rfl (run_move (v := .int .i64 _) rfl) ?_
      refine lw_on rfl rfl (rfl) ?_
      first | refine lw_val rfl (run_move (v := .int .i64 _) rfl) ?_
      refine lw_on rfl rfl (rfl) ?_
      refine lw_val rfl (run_eqi rfl rfl) ?_
      first | refine lw_val rfl (run_pickT (v := .bool _) rfl (rfl) rfl) ?_
      first | refine lw_val rfl (run_move (v := .bool _) rfl) ?_
      refine lw_on rfl rfl (decide_eq_true (by omega)) ?_
      first | refine lw_val rfl (run_move (v := .pointer (some _)) rfl) ?_ | refine lw_val rfl (run_move (v := .pointer none) rfl) ?_
      refine lw_on rfl rfl (decide_eq_true (by omega)) ?_
      refine lw_call rfl en19 (append_sl hE hs (show 2 + k < 1000000 by omega) (nm1 97) (x := []) Rd.nil rfl (by decide) (Dk.append_up (d := oneD 100 (nm1 97) [(nm1 97, 1)] [] (2 + k) b k) (i := 1) rfl rfl rfl (by show b.length + 0 + 0 ≤ 100; omega))) ?_
      clear hs
      rintro _ w ⟨rfl, hs⟩
      refine lw_on rfl rfl (decide_eq_true (by omega)) ?_
      first | refine lw_val rfl (run_eqerrn (ad := ad) rfl) ?_ | refine lw_val rfl (run_eqnn rfl) ?_
      first | refine lw_val rfl (run_pickT (v := .bool _) rfl (decide_eq_true (by omega)) rfl) ?_
      first | refine lw_val rfl (run_assign (v := .bool _) rfl) ?_
      refine lw_nil ?_
      refine cw_ret ?_
      refine res1 (v := .bool _) rfl rfl ?_
      exact ⟨_, rfl, rfl, hs.nil⟩
    · intro h71
      have g71 := of_decide_eq_false h71
      obtain rfl : k = r1 + 1 := by omega
      have hdn : dn = false := by rcases hrel with ⟨_, _, _, hd⟩ | ⟨h, _⟩ | ⟨h, _⟩ <;> first | exact hd | omega
      refine cw_skip ?_
      refine cw_seq ?_
      refine cw_seq ?_
      refine cw_region ?_
      first | refine lw_val rfl (run_move (v := .int .i64 _) rfl) ?_
      first | refine lw_val rfl (run_move (v := .int .i64 _) rfl) ?_
      refine lw_val rfl (run_nei rfl rfl) ?_
      first | refine lw_val rfl (run_move (v := .bool _) rfl) ?_
      refine lw_on rfl rfl (by simp) ?_
      first | refine lw_val rfl (run_move (v := .pointer (some _)) rfl) ?_ | refine lw_val rfl (run_move (v := .pointer none) rfl) ?_
      refine lw_on rfl rfl (by simp) ?_
      refine lw_call rfl en30 (down_sl hs) ?_
      clear hs
      rintro _ w ⟨rfl, hs⟩
      refine lw_on rfl rfl (by simp) ?_
      first | refine lw_val rfl (run_move (v := .int .i64 _) rfl) ?_
      refine lw_on rfl rfl (by simp) ?_
      refine lw_val rfl (run_gtr rfl rfl) ?_
      refine lw_on rfl rfl (by simp) ?_
      first | refine lw_val rfl (run_move (v := .bool _) rfl) ?_
      refine lw_off rfl rfl rfl (decide_eq_false g71) ?_
      refine lw_off rfl rfl rfl (decide_eq_false g71) ?_
      refine lw_off rfl rfl rfl (decide_eq_false g71) ?_
      refine lw_on rfl rfl (by simp) ?_
      first | refine lw_val rfl (run_pickF (v := .bool _) rfl (decide_eq_false g71) rfl) ?_
      refine lw_on rfl rfl (by simp) ?_
      refine lw_val rfl (run_neb Tryd.underlying4 rfl rfl) ?_
      first | refine lw_val rfl (run_pickF (v := .bool _) rfl (by simp) rfl) ?_
      first | refine lw_val rfl (run_move (v := .bool _) rfl) ?_
      refine lw_on rfl rfl (by rw [hdn]; rfl) ?_
      first | refine lw_val rfl (run_move (v := .pointer (some _)) rfl) ?_ | refine lw_val rfl (run_move (v := .pointer none) rfl) ?_
      refine lw_on rfl rfl (by rw [hdn]; rfl) ?_
      refine lw_call rfl en31 (dcalls_sl hs) ?_
      clear hs
      rintro _ w ⟨rfl, hs⟩
      refine lw_on rfl rfl (by rw [hdn]; rfl) ?_
      first | refine lw_val rfl (run_move (v := .int .i64 _) rfl) ?_
      refine lw_on rfl rfl (by rw [hdn]; rfl) ?_
      refine lw_val rfl (run_add64 rfl rfl rfl (inI (by omega) (by omega))) ?_
      refine lw_on rfl rfl (by rw [hdn]; rfl) ?_
      refine lw_val rfl (run_nei rfl rfl) ?_
      first | refine lw_val rfl (run_pickF (v := .bool _) rfl (by rw [hdn]; rfl) rfl) ?_
      refine lw_nil ?_
      refine cw_iff rfl (by rw [decide_eq_true (show ((2 + (r1 + 1) : Nat) : Int) = 2 + ((r1 + 1 : Nat) : Int) by omega)]; rfl) ?_
      refine cw_skip ?_
      refine cw_seq ?_
      refine cw_region ?_
      first | refine lw_val rfl (run_move (v := .pointer (some _)) rfl) ?_ | refine lw_val rfl (run_move (v := .pointer none) rfl) ?_
      refine lw_call rfl en32 (read_sl hE hs (nm1 97) (inI (by decide) (by decide)) (inI (by decide) (by decide)) (arms_read (r1 + 1) arm dn b)) ?_
      clear hs
      rintro _ w ⟨ar, cr, rfl, hs⟩
      first | refine lw_val rfl (run_move (v := .tuple _) rfl) ?_
      first | refine lw_val rfl (run_extract (v := .slice _ _ _) rfl rfl) ?_
      first | refine lw_val rfl (run_extract (v := errV ad _) rfl rfl) ?_ | refine lw_val rfl (run_extract (v := .nilIface) rfl rfl) ?_
      first | refine lw_val rfl (run_assign (v := .slice _ _ _) rfl) ?_
      first | refine lw_val rfl (run_assign (v := errV ad _) rfl) ?_ | refine lw_val rfl (run_assign (v := .nilIface) rfl) ?_
      refine lw_nil ?_
      refine cw_seq ?_
      refine cw_seq ?_
      refine cw_region ?_
      first | refine lw_val rfl (run_move (v := .pointer (some _)) rfl) ?_ | refine lw_val rfl (run_move (v := .pointer none) rfl) ?_
      refine lw_call rfl en30 (down_sl (L := [own _ _]) (hs.arr [1, 0] 2 (by decide))) ?_
      clear hs
      rintro _ w ⟨rfl, hs⟩
      first | refine lw_val rfl (run_move (v := errV ad _) rfl) ?_ | refine lw_val rfl (run_move (v := .nilIface) rfl) ?_
      refine lw_call rfl en20 (isA_sl hA hs (d := if dn then 110 else 0) (by cases dn <;> decide) 110) ?_
      clear hs
      rintro _ w ⟨rfl, hs⟩
      refine lw_val rfl (run_neb Tryd.underlying4 rfl rfl) ?_
      refine lw_nil ?_
      refine cw_iff rfl (by cases dn <;> rfl) ?_
      refine cw_skip ?_
      refine cw_seq ?_
      refine cw_region ?_
      first | refine lw_val rfl (run_move (v := .pointer (some _)) rfl) ?_ | refine lw_val rfl (run_move (v := .pointer none) rfl) ?_
      first | refine lw_val rfl (run_move (v := .int .i64 _) rfl) ?_
      refine lw_buildSlice hs rfl ((intsL [0, ((r1 + 1 : Nat) : Int)])) Tryd.underlying22 zs3 rfl (cells_one (intsL_one _)) rfl rfl rfl ?_
      clear hs
      intro b110 w hs
      try simp only [List.set_cons_succ, List.set_cons_zero] at hs
      refine lw_call rfl en33 (crash_sl (d := aD (r1 + 1) arm dn b) (L := [cells b110 (intsL [0, ((r1 + 1 : Nat) : Int)]) _, own _ _]) (hs.arr [1, 0, 2] 3 (by decide)) (show 2 + (r1 + 1) < 1000000 by omega) (picks := [0, ((r1 + 1 : Nat) : Int)]) (Rd.cells (n := 2) 0 rfl rfl) rfl (show 2 ≤ 1000000000 by decide)) ?_
      clear hs
      rintro _ w ⟨rfl, hs⟩
      refine lw_nil ?_
      rw [arms_crash _ arm dn b hbl] at hs
      refine cw_seq ?_
      refine cw_region ?_
      first | refine lw_val rfl (run_move (v := .pointer (some _)) rfl) ?_ | refine lw_val rfl (run_move (v := .pointer none) rfl) ?_
      refine lw_call rfl en21 (len_sl hE hs (nm1 97) (one_lenR ..)) ?_
      clear hs
      rintro _ w ⟨rfl, hs⟩
      first | refine lw_val rfl (run_move (v := .tuple _) rfl) ?_
      first | refine lw_val rfl (run_extract (v := .int .i64 _) rfl rfl) ?_
      first | refine lw_val rfl (run_extract (v := errV ad _) rfl rfl) ?_ | refine lw_val rfl (run_extract (v := .nilIface) rfl rfl) ?_
      first | refine lw_val rfl (run_assign (v := .int .i64 _) rfl) ?_
      first | refine lw_val rfl (run_assign (v := errV ad _) rfl) ?_ | refine lw_val rfl (run_assign (v := .nilIface) rfl) ?_
      refine lw_nil ?_
      refine cw_seq ?_
      refine cw_region ?_
      first | refine lw_val rfl (run_move (v := .bool _) rfl) ?_
      first | refine lw_val rfl (run_move (v := .bool _) rfl) ?_
      refine lw_on rfl rfl (rfl) ?_
      first | refine lw_val rfl (run_move (v := .pointer (some _)) rfl) ?_ | refine lw_val rfl (run_move (v := .pointer none) rfl) ?_
      refine lw_on rfl rfl (rfl) ?_
      refine lw_call rfl en30 (down_sl hs) ?_
      clear hs
      rintro _ w ⟨rfl, hs⟩
      refine lw_on rfl rfl (rfl) ?_
      refine lw_val rfl (run_not rfl) ?_
      first | refine lw_val rfl (run_pickT (v := .bool _) rfl (rfl) rfl) ?_
      first | refine lw_val rfl (run_move (v := .bool _) rfl) ?_
      refine lw_on rfl rfl (not_t (rfl)) ?_
      first | refine lw_val rfl (run_move (v := errV ad _) rfl) ?_ | refine lw_val rfl (run_move (v := .nilIface) rfl) ?_
      refine lw_on rfl rfl (not_t (rfl)) ?_
      first | refine lw_val rfl (run_eqerrn (ad := ad) rfl) ?_ | refine lw_val rfl (run_eqnn rfl) ?_
      first | refine lw_val rfl (run_pickT (v := .bool _) rfl (not_t (rfl)) rfl) ?_
      first | refine lw_val rfl (run_move (v := .bool _) rfl) ?_
      refine lw_on rfl rfl (rfl) ?_
      first | refine lw_val rfl (run_move (v := .int .i64 _) rfl) ?_
      refine lw_on rfl rfl (rfl) ?_
      first | refine lw_val rfl (run_move (v := .int .i64 _) rfl) ?_
      refine lw_on rfl rfl (rfl) ?_
      refine lw_val rfl (run_eqi rfl rfl) ?_
      first | refine lw_val rfl (run_pickT (v := .bool _) rfl (rfl) rfl) ?_
      first | refine lw_val rfl (run_move (v := .bool _) rfl) ?_
      refine lw_on rfl rfl (decide_eq_true (by omega)) ?_
      first | refine lw_val rfl (run_move (v := .pointer (some _)) rfl) ?_ | refine lw_val rfl (run_move (v := .pointer none) rfl) ?_
      refine lw_on rfl rfl (decide_eq_true (by omega)) ?_
      refine lw_call rfl en19 (append_sl hE hs (show 2 + (r1 + 1) < 1000000 by omega) (nm1 97) (x := []) Rd.nil rfl (by decide) (Dk.append_up (d := oneD 100 (nm1 97) [(nm1 97, 1)] [] (2 + (r1 + 1)) b (r1 + 1)) (i := 1) rfl rfl rfl (by show b.length + 0 + 0 ≤ 100; omega))) ?_
      clear hs
      rintro _ w ⟨rfl, hs⟩
      refine lw_on rfl rfl (decide_eq_true (by omega)) ?_
      first | refine lw_val rfl (run_eqerrn (ad := ad) rfl) ?_ | refine lw_val rfl (run_eqnn rfl) ?_
      first | refine lw_val rfl (run_pickT (v := .bool _) rfl (decide_eq_true (by omega)) rfl) ?_
      first | refine lw_val rfl (run_assign (v := .bool _) rfl) ?_
      refine lw_nil ?_
      refine cw_ret ?_
      refine res1 (v := .bool _) rfl rfl ?_
      exact ⟨_, rfl, rfl, hs.nil⟩
end Go.Proofs.YthlnkniocklegaaDoor
