/- The law DiskDown: while the power is gone nothing is changed or told. -/
import Derived.Test.YthlnkniocklegaaDoorDC
namespace Go.Proofs.YthlnkniocklegaaDoor
set_option linter.all false
open Go.RowKit
attribute [local irreducible] errV
variable {g w : World} {L M : List HP} {ad : Nat → Addr} {p : Nat} {d : Dk}

theorem Dk.begin_down (h : d.down = true) : d.begin = (110, d) := by simp [Dk.begin, h]
theorem Dk.find_down (h : d.down = true) (n : ByteArray) : d.find n = (110, none, d) := by simp [Dk.find, Dk.begin_down h]
theorem Dk.file_down (h : d.down = true) (n : ByteArray) : d.file n = (110, none) := by simp [Dk.file, h]
theorem Dk.create_down (h : d.down = true) (n : ByteArray) : d.create n = (110, d) := by simp [Dk.create, Dk.begin_down h]
theorem Dk.append_down (h : d.down = true) (n : ByteArray) (b : List UInt8) : d.append n b = (110, d) := by simp only [Dk.append, Dk.find_down h]
theorem Dk.cut_down (h : d.down = true) (n : ByteArray) (z : Int) : d.cut n z = (110, d) := by simp only [Dk.cut, Dk.find_down h]
theorem Dk.sync_down (h : d.down = true) (n : ByteArray) : d.sync n = (110, d) := by simp only [Dk.sync, Dk.find_down h]
theorem Dk.rename_down (h : d.down = true) (n m : ByteArray) : d.rename n m = (110, d) := by simp only [Dk.rename, Dk.find_down h]
theorem Dk.remove_down (h : d.down = true) (n : ByteArray) : d.remove n = (110, d) := by simp only [Dk.remove, Dk.find_down h]
theorem Dk.syncDir_down (h : d.down = true) : d.syncDir = (110, d) := by simp [Dk.syncDir, Dk.begin_down h]
theorem Dk.readR_down (h : d.down = true) (n : ByteArray) (o m : Int) : d.readR n o m = (110, []) := by simp only [Dk.readR, Dk.file_down h]
theorem Dk.lenR_down (h : d.down = true) (n : ByteArray) : d.lenR n = (110, 0) := by simp only [Dk.lenR, Dk.file_down h]
theorem Dk.synR_down (h : d.down = true) (n : ByteArray) : d.synR n = (110, 0) := by simp only [Dk.synR, Dk.file_down h]
/-- The disk while the power is gone. -/
abbrev dnD (lb : List UInt8) : Dk := ⟨500, [(nm1 97, 1)], [(nm1 97, 1)], [], 1, 0, true, 4, [(1, ⟨1, lb, lb.length⟩)]⟩
theorem dn_crash (lb : List UInt8) : (dnD lb).crash [] = oneD 500 (nm1 97) [(nm1 97, 1)] [] 4 lb lb.length := by
  have := crash_one [] 500 4 lb.length 0 true (nm1 97) lb (t := lb.length) (by simp [pickN])
  rw [List.take_length] at this
  exact this
set_option maxRecDepth 100000 in
theorem diskDown_sl (hA : ErrA ad g) (hs : Mem g w []) {a0 a1 : Option Addr} {n0 n1 c0 c1 : Nat} {l : List Int} {lb : List UInt8} (h0 : Came g (.slice a0 n0 c0) (intsL l)) (h1 : Came g (.slice a1 n1 c1) (bytesL lb))
    (e0 : n0 = l.length) (e1 : n1 = lb.length) : Calls Tryd.prog 8 #[.slice a0 n0 c0, .slice a1 n1 c1] w (Ret fun v w' => v = .bool true ∧ Mem g w' []) := by
  subst e0 e1
  have hE := hA.disk
  refine calls_cw Tryd.func8 rfl rfl ?_
  skip
  refine cw_seq ?_
  refine cw_region ?_
  first | refine lw_val rfl (run_assign (v := .bool _) rfl) ?_
  refine lw_nil ?_
  refine cw_seq ?_
  refine cw_region ?_
  refine lw_call rfl en15 (first4_sl hE hs) ?_
  clear hs
  rintro _ w ⟨rfl, hs⟩
  first | refine lw_val rfl (run_assign (v := .bool _) rfl) ?_
  refine lw_nil ?_
  refine cw_seq ?_
  refine cw_seq ?_
  refine cw_region ?_
  first | refine lw_val rfl (run_move (v := .bool _) rfl) ?_
  refine lw_val rfl (run_not rfl) ?_
  refine lw_nil ?_
  refine cw_iff rfl (not_f (rfl)) ?_
  refine cw_skip ?_
  refine cw_seq ?_
  refine cw_seq ?_
  refine cw_region ?_
  first | refine lw_val rfl (run_move (v := .slice _ _ _) rfl) ?_
  refine lw_val rfl (run_lenS Tryd.underlying22 rfl) ?_
  refine lw_val rfl (run_gtr rfl rfl) ?_
  first | refine lw_val rfl (run_move (v := .bool _) rfl) ?_
  refine lw_split (t := _) (d := 19) rfl ?_ ?_
  · intro h18
    have g18 := of_decide_eq_true h18
    refine lw_off rfl rfl rfl h18 ?_
    refine lw_off rfl rfl rfl h18 ?_
    refine lw_off rfl rfl rfl h18 ?_
    first | refine lw_val rfl (run_pickT (v := .bool _) rfl h18 rfl) ?_
    first | refine lw_val rfl (run_move (v := .bool _) rfl) ?_
    refine lw_off rfl rfl rfl rfl ?_
    refine lw_off rfl rfl rfl rfl ?_
    first | refine lw_val rfl (run_pickT (v := .bool _) rfl rfl rfl) ?_
    refine lw_nil ?_
    refine cw_ift rfl rfl ?_
    refine cw_seq ?_
    refine cw_region ?_
    first | refine lw_val rfl (run_move (v := .bool _) rfl) ?_
    first | refine lw_val rfl (run_assign (v := .bool _) rfl) ?_
    refine lw_nil ?_
    refine cw_ret ?_
    refine res1 (v := .bool _) rfl rfl ?_
    exact ⟨_, rfl, rfl, hs⟩
  · intro h18
    have g18 := of_decide_eq_false h18
    refine lw_on rfl rfl h18 ?_
    first | refine lw_val rfl (run_move (v := .slice _ _ _) rfl) ?_
    refine lw_on rfl rfl h18 ?_
    refine lw_val rfl (run_lenS Tryd.underlying30 rfl) ?_
    refine lw_on rfl rfl h18 ?_
    refine lw_val rfl (run_gtr rfl rfl) ?_
    first | refine lw_val rfl (run_pickF (v := .bool _) rfl h18 rfl) ?_
    first | refine lw_val rfl (run_move (v := .bool _) rfl) ?_
    refine lw_split (t := _) (d := 24) rfl ?_ ?_
    · intro h22
      have g22 := of_decide_eq_true h22
      refine lw_off rfl rfl rfl h22 ?_
      refine lw_off rfl rfl rfl h22 ?_
      first | refine lw_val rfl (run_pickT (v := .bool _) rfl h22 rfl) ?_
      refine lw_nil ?_
      refine cw_ift rfl rfl ?_
      refine cw_seq ?_
      refine cw_region ?_
      first | refine lw_val rfl (run_move (v := .bool _) rfl) ?_
      first | refine lw_val rfl (run_assign (v := .bool _) rfl) ?_
      refine lw_nil ?_
      refine cw_ret ?_
      refine res1 (v := .bool _) rfl rfl ?_
      exact ⟨_, rfl, rfl, hs⟩
    · intro h22
      have g22 := of_decide_eq_false h22
      refine lw_on rfl rfl h22 ?_
      first | refine lw_val rfl (run_move (v := .bool _) rfl) ?_
      refine lw_on rfl rfl h22 ?_
      refine lw_val rfl (run_not rfl) ?_
      first | refine lw_val rfl (run_pickF (v := .bool _) rfl h22 rfl) ?_
      refine lw_nil ?_
      refine cw_iff rfl (not_f (rfl)) ?_
      refine cw_skip ?_
      refine cw_seq ?_
      refine cw_region ?_
      refine lw_call rfl en17 (newd_sl hs (r := 500) (by decide) (by decide)) ?_
      clear hs
      rintro _ w ⟨p, rfl, hs⟩
      first | refine lw_val rfl (run_move (v := .tuple _) rfl) ?_
      first | refine lw_val rfl (run_extract (v := .pointer (some _)) rfl rfl) ?_ | refine lw_val rfl (run_extract (v := .pointer none) rfl rfl) ?_
      first | refine lw_val rfl (run_extract (v := errV ad _) rfl rfl) ?_ | refine lw_val rfl (run_extract (v := .nilIface) rfl rfl) ?_
      first | refine lw_val rfl (run_assign (v := .pointer (some _)) rfl) ?_ | refine lw_val rfl (run_assign (v := .pointer none) rfl) ?_
      first | refine lw_val rfl (run_assign (v := errV ad _) rfl) ?_ | refine lw_val rfl (run_assign (v := .nilIface) rfl) ?_
      refine lw_nil ?_
      refine cw_seq ?_
      refine cw_seq ?_
      refine cw_region ?_
      first | refine lw_val rfl (run_move (v := .pointer (some _)) rfl) ?_ | refine lw_val rfl (run_move (v := .pointer none) rfl) ?_
      refine lw_val rfl (run_eqpn Tryd.underlying25 rfl rfl) ?_
      first | refine lw_val rfl (run_move (v := .bool _) rfl) ?_
      refine lw_on rfl rfl rfl ?_
      first | refine lw_val rfl (run_move (v := errV ad _) rfl) ?_ | refine lw_val rfl (run_move (v := .nilIface) rfl) ?_
      refine lw_on rfl rfl rfl ?_
      first | refine lw_val rfl (run_neerrn (ad := ad) rfl) ?_ | refine lw_val rfl (run_nenn rfl) ?_
      first | refine lw_val rfl (run_pickF (v := .bool _) rfl rfl rfl) ?_
      first | refine lw_val rfl (run_move (v := .bool _) rfl) ?_
      refine lw_on rfl rfl (rfl) ?_
      first | refine lw_val rfl (run_move (v := .pointer (some _)) rfl) ?_ | refine lw_val rfl (run_move (v := .pointer none) rfl) ?_
      refine lw_on rfl rfl (rfl) ?_
      refine lw_call rfl en18 (create_sl hE hs (by decide) (nm1 97) (k := 0) (d2 := oneD 500 (nm1 97) [] [⟨nm1 97, ByteArray.empty, some 1⟩] 1 [] 0) (by kernel_rfl)) ?_
      clear hs
      rintro _ w ⟨rfl, hs⟩
      refine lw_on rfl rfl (rfl) ?_
      first | refine lw_val rfl (run_neerrn (ad := ad) rfl) ?_ | refine lw_val rfl (run_nenn rfl) ?_
      first | refine lw_val rfl (run_pickF (v := .bool _) rfl (rfl) rfl) ?_
      first | refine lw_val rfl (run_move (v := .bool _) rfl) ?_
      refine lw_on rfl rfl (rfl) ?_
      first | refine lw_val rfl (run_move (v := .pointer (some _)) rfl) ?_ | refine lw_val rfl (run_move (v := .pointer none) rfl) ?_
      refine lw_on rfl rfl (rfl) ?_
      first | refine lw_val rfl (run_move (v := .slice _ _ _) rfl) ?_
      refine lw_on rfl rfl (rfl) ?_
      refine lw_call rfl en19 (append_sl hE hs (by decide) (nm1 97) (x := lb) (k := 0) (d2 := oneD 500 (nm1 97) [] [⟨nm1 97, ByteArray.empty, some 1⟩] 2 lb 0) (h1.rd _) rfl (by omega) (Dk.append_up (i := 1) rfl rfl rfl (by show 0 + lb.length ≤ 500; omega))) ?_
      clear hs
      rintro _ w ⟨rfl, hs⟩
      refine lw_on rfl rfl (rfl) ?_
      first | refine lw_val rfl (run_neerrn (ad := ad) rfl) ?_ | refine lw_val rfl (run_nenn rfl) ?_
      first | refine lw_val rfl (run_pickF (v := .bool _) rfl (rfl) rfl) ?_
      first | refine lw_val rfl (run_move (v := .bool _) rfl) ?_
      refine lw_on rfl rfl (rfl) ?_
      first | refine lw_val rfl (run_move (v := .pointer (some _)) rfl) ?_ | refine lw_val rfl (run_move (v := .pointer none) rfl) ?_
      refine lw_on rfl rfl (rfl) ?_
      refine lw_call rfl en34 (sync_sl hE hs (show 2 < 1000000 by decide) (nm1 97) (k := 0) (d2 := oneD 500 (nm1 97) [] [⟨nm1 97, ByteArray.empty, some 1⟩] 3 lb lb.length) (Dk.sync_up (i := 1) rfl rfl rfl)) ?_
      clear hs
      rintro _ w ⟨rfl, hs⟩
      refine lw_on rfl rfl (rfl) ?_
      first | refine lw_val rfl (run_neerrn (ad := ad) rfl) ?_ | refine lw_val rfl (run_nenn rfl) ?_
      first | refine lw_val rfl (run_pickF (v := .bool _) rfl (rfl) rfl) ?_
      first | refine lw_val rfl (run_move (v := .bool _) rfl) ?_
      refine lw_on rfl rfl (rfl) ?_
      first | refine lw_val rfl (run_move (v := .pointer (some _)) rfl) ?_ | refine lw_val rfl (run_move (v := .pointer none) rfl) ?_
      refine lw_on rfl rfl (rfl) ?_
      refine lw_call rfl en28 (syncDir_sl hE hs (show 3 < 1000000 by decide) (k := 0) (d2 := oneD 500 (nm1 97) [(nm1 97, 1)] [] 4 lb lb.length) (Dk.syncDir_up rfl rfl)) ?_
      clear hs
      rintro _ w ⟨rfl, hs⟩
      refine lw_on rfl rfl (rfl) ?_
      first | refine lw_val rfl (run_neerrn (ad := ad) rfl) ?_ | refine lw_val rfl (run_nenn rfl) ?_
      first | refine lw_val rfl (run_pickF (v := .bool _) rfl (rfl) rfl) ?_
      refine lw_nil ?_
      refine cw_iff rfl (rfl) ?_
      refine cw_skip ?_
      refine cw_seq ?_
      refine cw_region ?_
      first | refine lw_val rfl (run_move (v := .pointer (some _)) rfl) ?_ | refine lw_val rfl (run_move (v := .pointer none) rfl) ?_
      refine lw_call rfl en29 (arm_sl hs 1 (by decide)) ?_
      clear hs
      rintro _ w ⟨rfl, hs⟩
      refine lw_nil ?_
      refine cw_seq ?_
      refine cw_seq ?_
      refine cw_region ?_
      first | refine lw_val rfl (run_move (v := .pointer (some _)) rfl) ?_ | refine lw_val rfl (run_move (v := .pointer none) rfl) ?_
      refine lw_call rfl en28 (syncDir_sl hE hs (show 4 < 1000000 by decide) (k := 110) (d2 := dnD lb) rfl) ?_
      clear hs
      rintro _ w ⟨rfl, hs⟩
      refine lw_call rfl en20 (isA_sl hA hs (d := 110) (by decide) 110) ?_
      clear hs
      rintro _ w ⟨rfl, hs⟩
      refine lw_val rfl (run_not rfl) ?_
      first | refine lw_val rfl (run_move (v := .bool _) rfl) ?_
      refine lw_on rfl rfl (not_f (rfl)) ?_
      first | refine lw_val rfl (run_move (v := .pointer (some _)) rfl) ?_ | refine lw_val rfl (run_move (v := .pointer none) rfl) ?_
      refine lw_on rfl rfl (not_f (rfl)) ?_
      refine lw_call rfl en30 (down_sl hs) ?_
      clear hs
      rintro _ w ⟨rfl, hs⟩
      refine lw_on rfl rfl (not_f (rfl)) ?_
      refine lw_val rfl (run_not rfl) ?_
      first | refine lw_val rfl (run_pickF (v := .bool _) rfl (not_f (rfl)) rfl) ?_
      refine lw_nil ?_
      refine cw_iff rfl (not_f (rfl)) ?_
      refine cw_skip ?_
      refine cw_seq ?_
      refine cw_region ?_
      first | refine lw_val rfl (run_move (v := .pointer (some _)) rfl) ?_ | refine lw_val rfl (run_move (v := .pointer none) rfl) ?_
      refine lw_call rfl en31 (dcalls_sl hs) ?_
      clear hs
      rintro _ w ⟨rfl, hs⟩
      first | refine lw_val rfl (run_assign (v := .int .i64 _) rfl) ?_
      refine lw_nil ?_
      refine cw_seq ?_
      refine cw_seq ?_
      refine cw_region ?_
      first | refine lw_val rfl (run_assign (v := .int .i64 _) rfl) ?_
      refine lw_nil ?_
      refine cw_block ?_
      refine cw_loop (X := Nat) [4, 9, 10, 73, 74, 75, 76, 77, 78, 79, 80, 81, 82, 83, 84, 85, 86, 87, 88, 89, 90, 91, 92, 93, 94, 95, 96, 97, 98, 99, 100, 101, 102, 103, 104, 105, 106, 107, 108, 109, 110, 111, 112, 113, 114, 115, 116, 117, 118, 119, 120, 121, 122, 123, 124, 125, 126, 127, 128, 129, 130, 131, 132, 133, 134, 135, 136] (fun k => [(9, .int .i64 (k : Nat))]) (fun k w => k ≤ l.length ∧ Mem g w [DiskC p (dnD lb)]) (fun k => l.length - k) (0) ?_ ?_ ?_
      · exact ⟨rfl, trivial⟩
      · exact ⟨Nat.zero_le _, hs⟩
      clear hs
      rintro x ξ w hI
      obtain ⟨hk, hs⟩ := hI
      refine cw_seq ?_
      refine cw_seq ?_
      refine cw_region ?_
      first | refine lw_val rfl (run_move (v := .int .i64 _) rfl) ?_
      first | refine lw_val rfl (run_move (v := .slice _ _ _) rfl) ?_
      refine lw_val rfl (run_lenS Tryd.underlying22 rfl) ?_
      refine lw_val rfl (run_lss rfl rfl) ?_
      refine lw_nil ?_
      refine cw_if rfl ?_ ?_
      · intro h76
        have g76 := of_decide_eq_true h76
        obtain ⟨z, hz⟩ : ∃ z, l[x]? = some z := ⟨_, List.getElem?_eq_getElem (by omega)⟩
        obtain ⟨b1, o1, rfl, _⟩ := (h0.rd _).cells' hs (by rw [intsL_len]; omega)
        refine cw_skip ?_
        refine cw_seq ?_
        refine cw_block ?_
        refine cw_seq ?_
        refine cw_region ?_
        first | refine lw_val rfl (run_assign (v := errV ad _) rfl) ?_ | refine lw_val rfl (run_assign (v := .nilIface) rfl) ?_
        refine lw_nil ?_
        refine cw_seq ?_
        refine cw_seq ?_
        refine cw_region ?_
        first | refine lw_val rfl (run_move (v := .slice _ _ _) rfl) ?_
        first | refine lw_val rfl (run_move (v := .int .i64 _) rfl) ?_
        refine lw_val rfl (run_indexAddr Tryd.underlying22 sz3 rfl rfl rfl (by omega) rfl) ?_
        refine lw_val rfl (run_load Tryd.underlying3 rfl rfl ((h0.rd _).cellAt hs (intsL_at hz))) ?_
        refine lw_call rfl en16 (number_sl hs z 9 (by decide)) ?_
        clear hs
        rintro _ w ⟨r, hr, rfl, hs⟩
        refine lw_nil ?_
        refine cw_block ?_
        refine cw_seq ?_
        refine cw_region ?_
        refine lw_val rfl (run_eqi rfl rfl) ?_
        first | refine lw_val rfl (run_assign (v := .bool _) rfl) ?_
        refine lw_nil ?_
        refine cw_if rfl ?_ ?_
        · intro h90
          have g90 := of_decide_eq_true h90
          refine cw_region ?_
          first | refine lw_val rfl (run_move (v := .pointer (some _)) rfl) ?_ | refine lw_val rfl (run_move (v := .pointer none) rfl) ?_
          refine lw_call rfl en18 (create_sl hE hs (show 4 < 1000000 by decide) (nm1 98) (Dk.create_down (d := dnD lb) rfl _)) ?_
          clear hs
          rintro _ w ⟨rfl, hs⟩
          first | refine lw_val rfl (run_assign (v := errV ad _) rfl) ?_ | refine lw_val rfl (run_assign (v := .nilIface) rfl) ?_
          refine lw_nil ?_
          refine cw_seq ?_
          refine cw_region ?_
          first | refine lw_val rfl (run_move (v := errV ad _) rfl) ?_ | refine lw_val rfl (run_move (v := .nilIface) rfl) ?_
          refine lw_call rfl en20 (isA_sl hA hs (d := 110) (by decide) 110) ?_
          clear hs
          rintro _ w ⟨rfl, hs⟩
          refine lw_val rfl (run_not rfl) ?_
          first | refine lw_val rfl (run_move (v := .bool _) rfl) ?_
          refine lw_on rfl rfl (not_f (rfl)) ?_
          first | refine lw_val rfl (run_move (v := .pointer (some _)) rfl) ?_ | refine lw_val rfl (run_move (v := .pointer none) rfl) ?_
          refine lw_on rfl rfl (not_f (rfl)) ?_
          refine lw_call rfl en31 (dcalls_sl hs) ?_
          clear hs
          rintro _ w ⟨rfl, hs⟩
          refine lw_on rfl rfl (not_f (rfl)) ?_
          first | refine lw_val rfl (run_move (v := .int .i64 _) rfl) ?_
          refine lw_on rfl rfl (not_f (rfl)) ?_
          refine lw_val rfl (run_nei rfl rfl) ?_
          first | refine lw_val rfl (run_pickF (v := .bool _) rfl (not_f (rfl)) rfl) ?_
          refine lw_nil ?_
          refine cw_iff rfl (by simp) ?_
          refine cw_skip ?_
          refine cw_region ?_
          first | refine lw_val rfl (run_move (v := .int .i64 _) rfl) ?_
          refine lw_val rfl (run_add64 rfl rfl rfl (inI (by omega) (by omega))) ?_
          first | refine lw_val rfl (run_assign (v := .int .i64 _) rfl) ?_
          refine lw_nil ?_
          exact ⟨x + 1, by omega, ⟨by omega, hs⟩, ⟨rfl, trivial⟩, by repeat (first | exact Out.mix _ _ _ | refine Out.updo rfl ?_ | refine Out.upd rfl ?_ | refine Out.mixIn rfl ?_)⟩
        · intro h90
          have g90 := of_decide_eq_false h90
          refine cw_seq ?_
          refine cw_region ?_
          refine lw_val rfl (run_eqi rfl rfl) ?_
          first | refine lw_val rfl (run_assign (v := .bool _) rfl) ?_
          refine lw_nil ?_
          refine cw_if rfl ?_ ?_
          · intro h94
            have g94 := of_decide_eq_true h94
            refine cw_region ?_
            first | refine lw_val rfl (run_move (v := .pointer (some _)) rfl) ?_ | refine lw_val rfl (run_move (v := .pointer none) rfl) ?_
            first | refine lw_val rfl (run_move (v := .slice _ _ _) rfl) ?_
            refine lw_call rfl en19 (append_sl hE hs (show 4 < 1000000 by decide) (nm1 97) (x := lb) (h1.rd _) rfl (by omega) (Dk.append_down (d := dnD lb) rfl _ _)) ?_
            clear hs
            rintro _ w ⟨rfl, hs⟩
            first | refine lw_val rfl (run_assign (v := errV ad _) rfl) ?_ | refine lw_val rfl (run_assign (v := .nilIface) rfl) ?_
            refine lw_nil ?_
            refine cw_seq ?_
            refine cw_region ?_
            first | refine lw_val rfl (run_move (v := errV ad _) rfl) ?_ | refine lw_val rfl (run_move (v := .nilIface) rfl) ?_
            refine lw_call rfl en20 (isA_sl hA hs (d := 110) (by decide) 110) ?_
            clear hs
            rintro _ w ⟨rfl, hs⟩
            refine lw_val rfl (run_not rfl) ?_
            first | refine lw_val rfl (run_move (v := .bool _) rfl) ?_
            refine lw_on rfl rfl (not_f (rfl)) ?_
            first | refine lw_val rfl (run_move (v := .pointer (some _)) rfl) ?_ | refine lw_val rfl (run_move (v := .pointer none) rfl) ?_
            refine lw_on rfl rfl (not_f (rfl)) ?_
            refine lw_call rfl en31 (dcalls_sl hs) ?_
            clear hs
            rintro _ w ⟨rfl, hs⟩
            refine lw_on rfl rfl (not_f (rfl)) ?_
            first | refine lw_val rfl (run_move (v := .int .i64 _) rfl) ?_
            refine lw_on rfl rfl (not_f (rfl)) ?_
            refine lw_val rfl (run_nei rfl rfl) ?_
            first | refine lw_val rfl (run_pickF (v := .bool _) rfl (not_f (rfl)) rfl) ?_
            refine lw_nil ?_
            refine cw_iff rfl (by simp) ?_
            refine cw_skip ?_
            refine cw_region ?_
            first | refine lw_val rfl (run_move (v := .int .i64 _) rfl) ?_
            refine lw_val rfl (run_add64 rfl rfl rfl (inI (by omega) (by omega))) ?_
            first | refine lw_val rfl (run_assign (v := .int .i64 _) rfl) ?_
            refine lw_nil ?_
            exact ⟨x + 1, by omega, ⟨by omega, hs⟩, ⟨rfl, trivial⟩, by repeat (first | exact Out.mix _ _ _ | refine Out.updo rfl ?_ | refine Out.upd rfl ?_ | refine Out.mixIn rfl ?_)⟩
          · intro h94
            have g94 := of_decide_eq_false h94
            refine cw_seq ?_
            refine cw_region ?_
            refine lw_val rfl (run_eqi rfl rfl) ?_
            first | refine lw_val rfl (run_assign (v := .bool _) rfl) ?_
            refine lw_nil ?_
            refine cw_if rfl ?_ ?_
            · intro h99
              have g99 := of_decide_eq_true h99
              refine cw_region ?_
              first | refine lw_val rfl (run_move (v := .pointer (some _)) rfl) ?_ | refine lw_val rfl (run_move (v := .pointer none) rfl) ?_
              refine lw_call rfl en36 (cut_sl hE hs (show 4 < 1000000 by decide) (nm1 97) (inI (by decide) (by decide)) (Dk.cut_down (d := dnD lb) rfl _ _)) ?_
              clear hs
              rintro _ w ⟨rfl, hs⟩
              first | refine lw_val rfl (run_assign (v := errV ad _) rfl) ?_ | refine lw_val rfl (run_assign (v := .nilIface) rfl) ?_
              refine lw_nil ?_
              refine cw_seq ?_
              refine cw_region ?_
              first | refine lw_val rfl (run_move (v := errV ad _) rfl) ?_ | refine lw_val rfl (run_move (v := .nilIface) rfl) ?_
              refine lw_call rfl en20 (isA_sl hA hs (d := 110) (by decide) 110) ?_
              clear hs
              rintro _ w ⟨rfl, hs⟩
              refine lw_val rfl (run_not rfl) ?_
              first | refine lw_val rfl (run_move (v := .bool _) rfl) ?_
              refine lw_on rfl rfl (not_f (rfl)) ?_
              first | refine lw_val rfl (run_move (v := .pointer (some _)) rfl) ?_ | refine lw_val rfl (run_move (v := .pointer none) rfl) ?_
              refine lw_on rfl rfl (not_f (rfl)) ?_
              refine lw_call rfl en31 (dcalls_sl hs) ?_
              clear hs
              rintro _ w ⟨rfl, hs⟩
              refine lw_on rfl rfl (not_f (rfl)) ?_
              first | refine lw_val rfl (run_move (v := .int .i64 _) rfl) ?_
              refine lw_on rfl rfl (not_f (rfl)) ?_
              refine lw_val rfl (run_nei rfl rfl) ?_
              first | refine lw_val rfl (run_pickF (v := .bool _) rfl (not_f (rfl)) rfl) ?_
              refine lw_nil ?_
              refine cw_iff rfl (by simp) ?_
              refine cw_skip ?_
              refine cw_region ?_
              first | refine lw_val rfl (run_move (v := .int .i64 _) rfl) ?_
              refine lw_val rfl (run_add64 rfl rfl rfl (inI (by omega) (by omega))) ?_
              first | refine lw_val rfl (run_assign (v := .int .i64 _) rfl) ?_
              refine lw_nil ?_
              exact ⟨x + 1, by omega, ⟨by omega, hs⟩, ⟨rfl, trivial⟩, by repeat (first | exact Out.mix _ _ _ | refine Out.updo rfl ?_ | refine Out.upd rfl ?_ | refine Out.mixIn rfl ?_)⟩
            · intro h99
              have g99 := of_decide_eq_false h99
              refine cw_seq ?_
              refine cw_region ?_
              refine lw_val rfl (run_eqi rfl rfl) ?_
              first | refine lw_val rfl (run_assign (v := .bool _) rfl) ?_
              refine lw_nil ?_
              refine cw_if rfl ?_ ?_
              · intro h103
                have g103 := of_decide_eq_true h103
                refine cw_region ?_
                first | refine lw_val rfl (run_move (v := .pointer (some _)) rfl) ?_ | refine lw_val rfl (run_move (v := .pointer none) rfl) ?_
                refine lw_call rfl en34 (sync_sl hE hs (show 4 < 1000000 by decide) (nm1 97) (Dk.sync_down (d := dnD lb) rfl _)) ?_
                clear hs
                rintro _ w ⟨rfl, hs⟩
                first | refine lw_val rfl (run_assign (v := errV ad _) rfl) ?_ | refine lw_val rfl (run_assign (v := .nilIface) rfl) ?_
                refine lw_nil ?_
                refine cw_seq ?_
                refine cw_region ?_
                first | refine lw_val rfl (run_move (v := errV ad _) rfl) ?_ | refine lw_val rfl (run_move (v := .nilIface) rfl) ?_
                refine lw_call rfl en20 (isA_sl hA hs (d := 110) (by decide) 110) ?_
                clear hs
                rintro _ w ⟨rfl, hs⟩
                refine lw_val rfl (run_not rfl) ?_
                first | refine lw_val rfl (run_move (v := .bool _) rfl) ?_
                refine lw_on rfl rfl (not_f (rfl)) ?_
                first | refine lw_val rfl (run_move (v := .pointer (some _)) rfl) ?_ | refine lw_val rfl (run_move (v := .pointer none) rfl) ?_
                refine lw_on rfl rfl (not_f (rfl)) ?_
                refine lw_call rfl en31 (dcalls_sl hs) ?_
                clear hs
                rintro _ w ⟨rfl, hs⟩
                refine lw_on rfl rfl (not_f (rfl)) ?_
                first | refine lw_val rfl (run_move (v := .int .i64 _) rfl) ?_
                refine lw_on rfl rfl (not_f (rfl)) ?_
                refine lw_val rfl (run_nei rfl rfl) ?_
                first | refine lw_val rfl (run_pickF (v := .bool _) rfl (not_f (rfl)) rfl) ?_
                refine lw_nil ?_
                refine cw_iff rfl (by simp) ?_
                refine cw_skip ?_
                refine cw_region ?_
                first | refine lw_val rfl (run_move (v := .int .i64 _) rfl) ?_
                refine lw_val rfl (run_add64 rfl rfl rfl (inI (by omega) (by omega))) ?_
                first | refine lw_val rfl (run_assign (v := .int .i64 _) rfl) ?_
                refine lw_nil ?_
                exact ⟨x + 1, by omega, ⟨by omega, hs⟩, ⟨rfl, trivial⟩, by repeat (first | exact Out.mix _ _ _ | refine Out.updo rfl ?_ | refine Out.upd rfl ?_ | refine Out.mixIn rfl ?_)⟩
              · intro h103
                have g103 := of_decide_eq_false h103
                refine cw_seq ?_
                refine cw_region ?_
                refine lw_val rfl (run_eqi rfl rfl) ?_
                first | refine lw_val rfl (run_assign (v := .bool _) rfl) ?_
                refine lw_nil ?_
                refine cw_if rfl ?_ ?_
                · intro h107
                  have g107 := of_decide_eq_true h107
                  refine cw_region ?_
                  first | refine lw_val rfl (run_move (v := .pointer (some _)) rfl) ?_ | refine lw_val rfl (run_move (v := .pointer none) rfl) ?_
                  refine lw_call rfl en38 (rename_sl hE hs (show 4 < 1000000 by decide) (nm1 97) (nm1 99) (Dk.rename_down (d := dnD lb) rfl _ _)) ?_
                  clear hs
                  rintro _ w ⟨rfl, hs⟩
                  first | refine lw_val rfl (run_assign (v := errV ad _) rfl) ?_ | refine lw_val rfl (run_assign (v := .nilIface) rfl) ?_
                  refine lw_nil ?_
                  refine cw_seq ?_
                  refine cw_region ?_
                  first | refine lw_val rfl (run_move (v := errV ad _) rfl) ?_ | refine lw_val rfl (run_move (v := .nilIface) rfl) ?_
                  refine lw_call rfl en20 (isA_sl hA hs (d := 110) (by decide) 110) ?_
                  clear hs
                  rintro _ w ⟨rfl, hs⟩
                  refine lw_val rfl (run_not rfl) ?_
                  first | refine lw_val rfl (run_move (v := .bool _) rfl) ?_
                  refine lw_on rfl rfl (not_f (rfl)) ?_
                  first | refine lw_val rfl (run_move (v := .pointer (some _)) rfl) ?_ | refine lw_val rfl (run_move (v := .pointer none) rfl) ?_
                  refine lw_on rfl rfl (not_f (rfl)) ?_
                  refine lw_call rfl en31 (dcalls_sl hs) ?_
                  clear hs
                  rintro _ w ⟨rfl, hs⟩
                  refine lw_on rfl rfl (not_f (rfl)) ?_
                  first | refine lw_val rfl (run_move (v := .int .i64 _) rfl) ?_
                  refine lw_on rfl rfl (not_f (rfl)) ?_
                  refine lw_val rfl (run_nei rfl rfl) ?_
                  first | refine lw_val rfl (run_pickF (v := .bool _) rfl (not_f (rfl)) rfl) ?_
                  refine lw_nil ?_
                  refine cw_iff rfl (by simp) ?_
                  refine cw_skip ?_
                  refine cw_region ?_
                  first | refine lw_val rfl (run_move (v := .int .i64 _) rfl) ?_
                  refine lw_val rfl (run_add64 rfl rfl rfl (inI (by omega) (by omega))) ?_
                  first | refine lw_val rfl (run_assign (v := .int .i64 _) rfl) ?_
                  refine lw_nil ?_
                  exact ⟨x + 1, by omega, ⟨by omega, hs⟩, ⟨rfl, trivial⟩, by repeat (first | exact Out.mix _ _ _ | refine Out.updo rfl ?_ | refine Out.upd rfl ?_ | refine Out.mixIn rfl ?_)⟩
                · intro h107
                  have g107 := of_decide_eq_false h107
                  refine cw_seq ?_
                  refine cw_region ?_
                  refine lw_val rfl (run_eqi rfl rfl) ?_
                  first | refine lw_val rfl (run_assign (v := .bool _) rfl) ?_
                  refine lw_nil ?_
                  refine cw_if rfl ?_ ?_
                  · intro h111
                    have g111 := of_decide_eq_true h111
                    refine cw_region ?_
                    first | refine lw_val rfl (run_move (v := .pointer (some _)) rfl) ?_ | refine lw_val rfl (run_move (v := .pointer none) rfl) ?_
                    refine lw_call rfl en22 (remove_sl hE hs (show 4 < 1000000 by decide) (nm1 97) (Dk.remove_down (d := dnD lb) rfl _)) ?_
                    clear hs
                    rintro _ w ⟨rfl, hs⟩
                    first | refine lw_val rfl (run_assign (v := errV ad _) rfl) ?_ | refine lw_val rfl (run_assign (v := .nilIface) rfl) ?_
                    refine lw_nil ?_
                    refine cw_seq ?_
                    refine cw_region ?_
                    first | refine lw_val rfl (run_move (v := errV ad _) rfl) ?_ | refine lw_val rfl (run_move (v := .nilIface) rfl) ?_
                    refine lw_call rfl en20 (isA_sl hA hs (d := 110) (by decide) 110) ?_
                    clear hs
                    rintro _ w ⟨rfl, hs⟩
                    refine lw_val rfl (run_not rfl) ?_
                    first | refine lw_val rfl (run_move (v := .bool _) rfl) ?_
                    refine lw_on rfl rfl (not_f (rfl)) ?_
                    first | refine lw_val rfl (run_move (v := .pointer (some _)) rfl) ?_ | refine lw_val rfl (run_move (v := .pointer none) rfl) ?_
                    refine lw_on rfl rfl (not_f (rfl)) ?_
                    refine lw_call rfl en31 (dcalls_sl hs) ?_
                    clear hs
                    rintro _ w ⟨rfl, hs⟩
                    refine lw_on rfl rfl (not_f (rfl)) ?_
                    first | refine lw_val rfl (run_move (v := .int .i64 _) rfl) ?_
                    refine lw_on rfl rfl (not_f (rfl)) ?_
                    refine lw_val rfl (run_nei rfl rfl) ?_
                    first | refine lw_val rfl (run_pickF (v := .bool _) rfl (not_f (rfl)) rfl) ?_
                    refine lw_nil ?_
                    refine cw_iff rfl (by simp) ?_
                    refine cw_skip ?_
                    refine cw_region ?_
                    first | refine lw_val rfl (run_move (v := .int .i64 _) rfl) ?_
                    refine lw_val rfl (run_add64 rfl rfl rfl (inI (by omega) (by omega))) ?_
                    first | refine lw_val rfl (run_assign (v := .int .i64 _) rfl) ?_
                    refine lw_nil ?_
                    exact ⟨x + 1, by omega, ⟨by omega, hs⟩, ⟨rfl, trivial⟩, by repeat (first | exact Out.mix _ _ _ | refine Out.updo rfl ?_ | refine Out.upd rfl ?_ | refine Out.mixIn rfl ?_)⟩
                  · intro h111
                    have g111 := of_decide_eq_false h111
                    refine cw_seq ?_
                    refine cw_region ?_
                    refine lw_val rfl (run_eqi rfl rfl) ?_
                    first | refine lw_val rfl (run_assign (v := .bool _) rfl) ?_
                    refine lw_nil ?_
                    refine cw_if rfl ?_ ?_
                    · intro h115
                      have g115 := of_decide_eq_true h115
                      refine cw_region ?_
                      first | refine lw_val rfl (run_move (v := .pointer (some _)) rfl) ?_ | refine lw_val rfl (run_move (v := .pointer none) rfl) ?_
                      refine lw_call rfl en32 (read_sl hE hs (nm1 97) (inI (by decide) (by decide)) (inI (by decide) (by decide)) (Dk.readR_down (d := dnD lb) rfl _ _ _)) ?_
                      clear hs
                      rintro _ w ⟨ar, cr, rfl, hs⟩
                      replace hs := hs.tail
                      first | refine lw_val rfl (run_move (v := .tuple _) rfl) ?_
                      first | refine lw_val rfl (run_extract (v := .slice _ _ _) rfl rfl) ?_
                      first | refine lw_val rfl (run_extract (v := errV ad _) rfl rfl) ?_ | refine lw_val rfl (run_extract (v := .nilIface) rfl rfl) ?_
                      first | refine lw_val rfl (run_assign (v := errV ad _) rfl) ?_ | refine lw_val rfl (run_assign (v := .nilIface) rfl) ?_
                      refine lw_nil ?_
                      refine cw_seq ?_
                      refine cw_region ?_
                      first | refine lw_val rfl (run_move (v := errV ad _) rfl) ?_ | refine lw_val rfl (run_move (v := .nilIface) rfl) ?_
                      refine lw_call rfl en20 (isA_sl hA hs (d := 110) (by decide) 110) ?_
                      clear hs
                      rintro _ w ⟨rfl, hs⟩
                      refine lw_val rfl (run_not rfl) ?_
                      first | refine lw_val rfl (run_move (v := .bool _) rfl) ?_
                      refine lw_on rfl rfl (not_f (rfl)) ?_
                      first | refine lw_val rfl (run_move (v := .pointer (some _)) rfl) ?_ | refine lw_val rfl (run_move (v := .pointer none) rfl) ?_
                      refine lw_on rfl rfl (not_f (rfl)) ?_
                      refine lw_call rfl en31 (dcalls_sl hs) ?_
                      clear hs
                      rintro _ w ⟨rfl, hs⟩
                      refine lw_on rfl rfl (not_f (rfl)) ?_
                      first | refine lw_val rfl (run_move (v := .int .i64 _) rfl) ?_
                      refine lw_on rfl rfl (not_f (rfl)) ?_
                      refine lw_val rfl (run_nei rfl rfl) ?_
                      first | refine lw_val rfl (run_pickF (v := .bool _) rfl (not_f (rfl)) rfl) ?_
                      refine lw_nil ?_
                      refine cw_iff rfl (by simp) ?_
                      refine cw_skip ?_
                      refine cw_region ?_
                      first | refine lw_val rfl (run_move (v := .int .i64 _) rfl) ?_
                      refine lw_val rfl (run_add64 rfl rfl rfl (inI (by omega) (by omega))) ?_
                      first | refine lw_val rfl (run_assign (v := .int .i64 _) rfl) ?_
                      refine lw_nil ?_
                      exact ⟨x + 1, by omega, ⟨by omega, hs⟩, ⟨rfl, trivial⟩, by repeat (first | exact Out.mix _ _ _ | refine Out.updo rfl ?_ | refine Out.upd rfl ?_ | refine Out.mixIn rfl ?_)⟩
                    · intro h115
                      have g115 := of_decide_eq_false h115
                      refine cw_seq ?_
                      refine cw_region ?_
                      refine lw_val rfl (run_eqi rfl rfl) ?_
                      first | refine lw_val rfl (run_assign (v := .bool _) rfl) ?_
                      refine lw_nil ?_
                      refine cw_if rfl ?_ ?_
                      · intro h122
                        have g122 := of_decide_eq_true h122
                        refine cw_region ?_
                        first | refine lw_val rfl (run_move (v := .pointer (some _)) rfl) ?_ | refine lw_val rfl (run_move (v := .pointer none) rfl) ?_
                        refine lw_call rfl en21 (len_sl hE hs ⟨#[110, 111, 110, 101]⟩ (Dk.lenR_down (d := dnD lb) rfl _)) ?_
                        clear hs
                        rintro _ w ⟨rfl, hs⟩
                        first | refine lw_val rfl (run_move (v := .tuple _) rfl) ?_
                        first | refine lw_val rfl (run_extract (v := .int .i64 _) rfl rfl) ?_
                        first | refine lw_val rfl (run_extract (v := errV ad _) rfl rfl) ?_ | refine lw_val rfl (run_extract (v := .nilIface) rfl rfl) ?_
                        first | refine lw_val rfl (run_assign (v := errV ad _) rfl) ?_ | refine lw_val rfl (run_assign (v := .nilIface) rfl) ?_
                        refine lw_nil ?_
                        refine cw_seq ?_
                        refine cw_region ?_
                        first | refine lw_val rfl (run_move (v := errV ad _) rfl) ?_ | refine lw_val rfl (run_move (v := .nilIface) rfl) ?_
                        refine lw_call rfl en20 (isA_sl hA hs (d := 110) (by decide) 110) ?_
                        clear hs
                        rintro _ w ⟨rfl, hs⟩
                        refine lw_val rfl (run_not rfl) ?_
                        first | refine lw_val rfl (run_move (v := .bool _) rfl) ?_
                        refine lw_on rfl rfl (not_f (rfl)) ?_
                        first | refine lw_val rfl (run_move (v := .pointer (some _)) rfl) ?_ | refine lw_val rfl (run_move (v := .pointer none) rfl) ?_
                        refine lw_on rfl rfl (not_f (rfl)) ?_
                        refine lw_call rfl en31 (dcalls_sl hs) ?_
                        clear hs
                        rintro _ w ⟨rfl, hs⟩
                        refine lw_on rfl rfl (not_f (rfl)) ?_
                        first | refine lw_val rfl (run_move (v := .int .i64 _) rfl) ?_
                        refine lw_on rfl rfl (not_f (rfl)) ?_
                        refine lw_val rfl (run_nei rfl rfl) ?_
                        first | refine lw_val rfl (run_pickF (v := .bool _) rfl (not_f (rfl)) rfl) ?_
                        refine lw_nil ?_
                        refine cw_iff rfl (by simp) ?_
                        refine cw_skip ?_
                        refine cw_region ?_
                        first | refine lw_val rfl (run_move (v := .int .i64 _) rfl) ?_
                        refine lw_val rfl (run_add64 rfl rfl rfl (inI (by omega) (by omega))) ?_
                        first | refine lw_val rfl (run_assign (v := .int .i64 _) rfl) ?_
                        refine lw_nil ?_
                        exact ⟨x + 1, by omega, ⟨by omega, hs⟩, ⟨rfl, trivial⟩, by repeat (first | exact Out.mix _ _ _ | refine Out.updo rfl ?_ | refine Out.upd rfl ?_ | refine Out.mixIn rfl ?_)⟩
                      · intro h122
                        have g122 := of_decide_eq_false h122
                        refine cw_region ?_
                        first | refine lw_val rfl (run_move (v := .pointer (some _)) rfl) ?_ | refine lw_val rfl (run_move (v := .pointer none) rfl) ?_
                        refine lw_call rfl en35 (synced_sl hE hs (nm1 97) (Dk.synR_down (d := dnD lb) rfl _)) ?_
                        clear hs
                        rintro _ w ⟨rfl, hs⟩
                        first | refine lw_val rfl (run_move (v := .tuple _) rfl) ?_
                        first | refine lw_val rfl (run_extract (v := .int .i64 _) rfl rfl) ?_
                        first | refine lw_val rfl (run_extract (v := errV ad _) rfl rfl) ?_ | refine lw_val rfl (run_extract (v := .nilIface) rfl rfl) ?_
                        first | refine lw_val rfl (run_assign (v := errV ad _) rfl) ?_ | refine lw_val rfl (run_assign (v := .nilIface) rfl) ?_
                        refine lw_nil ?_
                        refine cw_seq ?_
                        refine cw_region ?_
                        first | refine lw_val rfl (run_move (v := errV ad _) rfl) ?_ | refine lw_val rfl (run_move (v := .nilIface) rfl) ?_
                        refine lw_call rfl en20 (isA_sl hA hs (d := 110) (by decide) 110) ?_
                        clear hs
                        rintro _ w ⟨rfl, hs⟩
                        refine lw_val rfl (run_not rfl) ?_
                        first | refine lw_val rfl (run_move (v := .bool _) rfl) ?_
                        refine lw_on rfl rfl (not_f (rfl)) ?_
                        first | refine lw_val rfl (run_move (v := .pointer (some _)) rfl) ?_ | refine lw_val rfl (run_move (v := .pointer none) rfl) ?_
                        refine lw_on rfl rfl (not_f (rfl)) ?_
                        refine lw_call rfl en31 (dcalls_sl hs) ?_
                        clear hs
                        rintro _ w ⟨rfl, hs⟩
                        refine lw_on rfl rfl (not_f (rfl)) ?_
                        first | refine lw_val rfl (run_move (v := .int .i64 _) rfl) ?_
                        refine lw_on rfl rfl (not_f (rfl)) ?_
                        refine lw_val rfl (run_nei rfl rfl) ?_
                        first | refine lw_val rfl (run_pickF (v := .bool _) rfl (not_f (rfl)) rfl) ?_
                        refine lw_nil ?_
                        refine cw_iff rfl (by simp) ?_
                        refine cw_skip ?_
                        refine cw_region ?_
                        first | refine lw_val rfl (run_move (v := .int .i64 _) rfl) ?_
                        refine lw_val rfl (run_add64 rfl rfl rfl (inI (by omega) (by omega))) ?_
                        first | refine lw_val rfl (run_assign (v := .int .i64 _) rfl) ?_
                        refine lw_nil ?_
                        exact ⟨x + 1, by omega, ⟨by omega, hs⟩, ⟨rfl, trivial⟩, by repeat (first | exact Out.mix _ _ _ | refine Out.updo rfl ?_ | refine Out.upd rfl ?_ | refine Out.mixIn rfl ?_)⟩
      · intro h76
        have g76 := of_decide_eq_false h76
        refine cw_exit rfl ?_
        refine cw_seq ?_
        refine cw_region ?_
        first | refine lw_val rfl (run_move (v := .pointer (some _)) rfl) ?_ | refine lw_val rfl (run_move (v := .pointer none) rfl) ?_
        refine lw_call rfl en33 (crash_sl hs (show 4 < 1000000 by decide) (picks := []) Rd.nil rfl (by decide)) ?_
        clear hs
        rintro _ w ⟨rfl, hs⟩
        refine lw_nil ?_
        rw [dn_crash] at hs
        refine cw_seq ?_
        refine cw_region ?_
        first | refine lw_val rfl (run_move (v := .pointer (some _)) rfl) ?_ | refine lw_val rfl (run_move (v := .pointer none) rfl) ?_
        first | refine lw_val rfl (run_move (v := .slice _ _ _) rfl) ?_
        refine lw_val rfl (run_lenS Tryd.underlying30 rfl) ?_
        refine lw_call rfl en32 (read_sl hE hs (nm1 97) (off := 0) (m := lb.length) (inI (by decide) (by decide)) (inI (by omega) (by omega)) (k := 0) (l := lb) ((Dk.readR_at (d := oneD 500 (nm1 97) [(nm1 97, 1)] [] 4 lb lb.length) (o := 0) (m := lb.length) rfl (one_names ..) rfl (by show 0 + lb.length ≤ lb.length; omega)).trans (by simp))) ?_
        clear hs
        rintro _ w ⟨ar, cr, rfl, hs⟩
        first | refine lw_val rfl (run_move (v := .tuple _) rfl) ?_
        first | refine lw_val rfl (run_extract (v := .slice _ _ _) rfl rfl) ?_
        first | refine lw_val rfl (run_extract (v := errV ad _) rfl rfl) ?_ | refine lw_val rfl (run_extract (v := .nilIface) rfl rfl) ?_
        first | refine lw_val rfl (run_assign (v := .slice _ _ _) rfl) ?_
        first | refine lw_val rfl (run_assign (v := errV ad _) rfl) ?_ | refine lw_val rfl (run_assign (v := .nilIface) rfl) ?_
        refine lw_nil ?_
        refine cw_seq ?_
        refine cw_region ?_
        first | refine lw_val rfl (run_move (v := errV ad _) rfl) ?_ | refine lw_val rfl (run_move (v := .nilIface) rfl) ?_
        first | refine lw_val rfl (run_eqerrn (ad := ad) rfl) ?_ | refine lw_val rfl (run_eqnn rfl) ?_
        first | refine lw_val rfl (run_move (v := .bool _) rfl) ?_
        refine lw_on rfl rfl (rfl) ?_
        first | refine lw_val rfl (run_move (v := .slice _ _ _) rfl) ?_
        refine lw_on rfl rfl (rfl) ?_
        first | refine lw_val rfl (run_move (v := .slice _ _ _) rfl) ?_
        refine lw_on rfl rfl (rfl) ?_
        refine lw_call rfl en27 (sameB_sl hs (la := lb) (lb := lb) (hs.rdOwn 0 rfl) (h1.rd _) rfl rfl (by omega)) ?_
        clear hs
        rintro _ w ⟨rfl, hs⟩
        first | refine lw_val rfl (run_pickT (v := .bool _) rfl (rfl) rfl) ?_
        first | refine lw_val rfl (run_move (v := .bool _) rfl) ?_
        refine lw_on rfl rfl (decide_eq_true rfl) ?_
        first | refine lw_val rfl (run_move (v := .pointer (some _)) rfl) ?_ | refine lw_val rfl (run_move (v := .pointer none) rfl) ?_
        refine lw_on rfl rfl (decide_eq_true rfl) ?_
        refine lw_call rfl en30 (down_sl (L := own _ _ :: []) (hs.arr [1, 0] 2 (by decide))) ?_
        clear hs
        rintro _ w ⟨rfl, hs⟩
        refine lw_on rfl rfl (decide_eq_true rfl) ?_
        refine lw_val rfl (run_not rfl) ?_
        first | refine lw_val rfl (run_pickT (v := .bool _) rfl (decide_eq_true rfl) rfl) ?_
        first | refine lw_val rfl (run_move (v := .bool _) rfl) ?_
        refine lw_on rfl rfl (not_t (rfl)) ?_
        first | refine lw_val rfl (run_move (v := .pointer (some _)) rfl) ?_ | refine lw_val rfl (run_move (v := .pointer none) rfl) ?_
        refine lw_on rfl rfl (not_t (rfl)) ?_
        refine lw_call rfl en18 (create_sl hE hs (show 4 < 1000000 by decide) (nm1 98) (Dk.create_up rfl rfl (by decide) (by kernel_rfl))) ?_
        clear hs
        rintro _ w ⟨rfl, hs⟩
        refine lw_on rfl rfl (not_t (rfl)) ?_
        first | refine lw_val rfl (run_eqerrn (ad := ad) rfl) ?_ | refine lw_val rfl (run_eqnn rfl) ?_
        first | refine lw_val rfl (run_pickT (v := .bool _) rfl (not_t (rfl)) rfl) ?_
        first | refine lw_val rfl (run_assign (v := .bool _) rfl) ?_
        refine lw_nil ?_
        refine cw_ret ?_
        refine res1 (v := .bool _) rfl rfl ?_
        exact ⟨_, rfl, rfl, hs.nil⟩
end Go.Proofs.YthlnkniocklegaaDoor
