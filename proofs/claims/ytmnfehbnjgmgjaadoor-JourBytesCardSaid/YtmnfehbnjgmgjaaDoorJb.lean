/- The law JourBytes. -/
import Derived.Test.YtmnfehbnjgmgjaaDoorJc
namespace Go.Proofs.YtmnfehbnjgmgjaaDoor
set_option linter.all false
open Go.RowKit
attribute [local irreducible] errV eV
variable {g w : World} {L M : List HP} {ad : Nat → Addr} {p : Nat} {d : Dk}

def jb1 : Dk := ⟨1000, [(nUp, 1)], [], [⟨nUp, ByteArray.empty, some 1⟩], 1, 0, false, 1, [(1, ⟨1, [], 0⟩)]⟩
def jb2 (b : List UInt8) : Dk := ⟨1000, [(nUp, 1)], [], [⟨nUp, ByteArray.empty, some 1⟩], 1, 0, false, 2, [(1, ⟨1, b, 0⟩)]⟩
theorem jb_create : (Dk.empty 1000).create nUp = (0, jb1) := by
  rw [Dk.create_up rfl rfl nU_valid.1 rfl]; rfl
theorem jb_append {b : List UInt8} (h : b.length ≤ 100) : jb1.append nUp b = (0, jb2 b) := by
  rw [Dk.append_up (i := 1) rfl rfl (by simp [jb1, aget]) (by show 0 + b.length ≤ 1000; omega)]
  simp [jb1, jb2, Dk.setF, Dk.fl, aget, aput]
theorem jb_read (b : List UInt8) : (jb2 b).pread nUp = openL b := by
  have hl : (jb2 b).lenR nUp = (0, b.length) := by simp [Dk.lenR, Dk.file, jb2, Dk.fl, aget]
  have hr : (jb2 b).readR nUp 0 (b.length : Int) = (0, b) := (Dk.readR_at (i := 1) (F := ⟨1, b, 0⟩) (o := 0) (m := b.length) rfl (by simp [jb2, aget]) (by simp [jb2, aget]) (by show 0 + b.length ≤ b.length; omega)).trans (by simp)
  simp only [Dk.pread, hl, hr]
  simp
theorem jst_all {l : List Int} (hl : ∀ z ∈ l, InI64 z) (hn : l.length ≤ 4096) : ∃ is x y z u, jst (0, numsL l) = (0, is, x, y, z, u) ∧ ((is = true ∧ l = [x, y, z, u] ∧ (decide (l.length = 4) && l.all inR) = true) ∨ (is = false ∧ x = 0 ∧ y = 0 ∧ z = 0 ∧ u = 0 ∧ (decide (l.length = 4) && l.all inR) = false)) := by
  rcases jst_nums hl hn with ⟨x, y, z, u, rfl, h1, h2⟩ | ⟨h1, h2⟩
  · exact ⟨true, x, y, z, u, h2, .inl ⟨rfl, rfl, h1⟩⟩
  · refine ⟨false, 0, 0, 0, 0, h1, .inr ⟨rfl, rfl, rfl, rfl, rfl, ?_⟩⟩
    cases hb : (decide (l.length = 4) && l.all inR) with
    | false => rfl
    | true => simp only [Bool.and_eq_true, decide_eq_true_eq] at hb; exact absurd hb h2
theorem goodB_next {l : List Int} {q : Nat} {z : Int} (h : l[q]? = some z) : (decide (l.length = 4) && (l.take (q + 1)).all inR) = ((decide (l.length = 4) && (l.take q).all inR) && inR z) := by
  rw [List.take_add_one, h, List.all_append]
  simp [Bool.and_assoc]
set_option maxRecDepth 100000 in
theorem jourBytes_sl (hE : ErrJ ad g) (hs : Mem g w []) {a0 a1 : Option Addr} {n0 n1 c0 c1 : Nat} {b : List UInt8} {l : List Int} {sealed : Bool} (h0 : Came g (.slice a0 n0 c0) (bytesL b)) (h1 : Came g (.slice a1 n1 c1) (intsL l)) (e0 : n0 = b.length) (e1 : n1 = l.length) (hl : ∀ z ∈ l, InI64 z) :
    Calls Tryd.prog 4 #[.slice a0 n0 c0, .slice a1 n1 c1, .bool sealed] w (Ret fun v w' => v = .bool true ∧ Mem g w' []) := by
  subst e0 e1
  have hK : ErrK ad g := hE.sub (by decide)
  have hP : ErrP ad g := hE.sub (by decide)
  have hnl := numsL_len l
  refine calls_cw Tryd.func4 rfl rfl ?_
  skip
  refine cw_seq ?_
  refine cw_region ?_
  first | refine lw_val rfl (run_assign (v := .bool _) rfl) ?_
  refine lw_nil ?_
  refine cw_seq ?_
  refine cw_region ?_
  refine lw_call rfl en25 (first20_sl hE hs) ?_
  clear hs
  rintro _ w ⟨rfl, hs⟩
  first | refine lw_val rfl (run_assign (v := .bool _) rfl) ?_
  refine lw_nil ?_
  refine cw_seq ?_
  refine cw_seq ?_
  refine cw_region ?_
  first | refine lw_val rfl (run_move (v := .bool _) rfl) ?_
  refine lw_val rfl (run_not rfl) ?_
  refine lw_nil ?_
  refine cw_iff rfl (not_f (rfl)) ?_
  refine cw_skip ?_
  refine cw_seq ?_
  refine cw_seq ?_
  refine cw_region ?_
  first | refine lw_val rfl (run_move (v := .slice _ _ _) rfl) ?_
  refine lw_val rfl (run_lenS Tryd.underlying23 rfl) ?_
  refine lw_val rfl (run_gtr rfl rfl) ?_
  first | refine lw_val rfl (run_move (v := .bool _) rfl) ?_
  refine lw_split (t := _) (d := 26) rfl ?_ ?_
  · intro h25
    have g25 := of_decide_eq_true h25
    refine lw_off rfl rfl rfl h25 ?_
    refine lw_off rfl rfl rfl h25 ?_
    refine lw_off rfl rfl rfl h25 ?_
    first | refine lw_val rfl (run_pickT (v := .bool _) rfl h25 rfl) ?_
    first | refine lw_val rfl (run_move (v := .bool _) rfl) ?_
    refine lw_off rfl rfl rfl rfl ?_
    refine lw_off rfl rfl rfl rfl ?_
    first | refine lw_val rfl (run_pickT (v := .bool _) rfl rfl rfl) ?_
    refine lw_nil ?_
    refine cw_ift rfl rfl ?_
    refine cw_seq ?_
    refine cw_region ?_
    first | refine lw_val rfl (run_move (v := .bool _) rfl) ?_
    first | refine lw_val rfl (run_assign (v := .bool _) rfl) ?_
    refine lw_nil ?_
    refine cw_ret ?_
    refine res1 (v := .bool _) rfl rfl ?_
    exact ⟨_, rfl, rfl, hs⟩
  · intro h25
    have g25 := of_decide_eq_false h25
    refine lw_on rfl rfl h25 ?_
    first | refine lw_val rfl (run_move (v := .slice _ _ _) rfl) ?_
    refine lw_on rfl rfl h25 ?_
    refine lw_val rfl (run_lenS Tryd.underlying22 rfl) ?_
    refine lw_on rfl rfl h25 ?_
    refine lw_val rfl (run_gtr rfl rfl) ?_
    first | refine lw_val rfl (run_pickF (v := .bool _) rfl h25 rfl) ?_
    first | refine lw_val rfl (run_move (v := .bool _) rfl) ?_
    refine lw_split (t := _) (d := 31) rfl ?_ ?_
    · intro h29
      have g29 := of_decide_eq_true h29
      refine lw_off rfl rfl rfl h29 ?_
      refine lw_off rfl rfl rfl h29 ?_
      first | refine lw_val rfl (run_pickT (v := .bool _) rfl h29 rfl) ?_
      refine lw_nil ?_
      refine cw_ift rfl rfl ?_
      refine cw_seq ?_
      refine cw_region ?_
      first | refine lw_val rfl (run_move (v := .bool _) rfl) ?_
      first | refine lw_val rfl (run_assign (v := .bool _) rfl) ?_
      refine lw_nil ?_
      refine cw_ret ?_
      refine res1 (v := .bool _) rfl rfl ?_
      exact ⟨_, rfl, rfl, hs⟩
    · intro h29
      have g29 := of_decide_eq_false h29
      refine lw_on rfl rfl h29 ?_
      first | refine lw_val rfl (run_move (v := .bool _) rfl) ?_
      refine lw_on rfl rfl h29 ?_
      refine lw_val rfl (run_not rfl) ?_
      first | refine lw_val rfl (run_pickF (v := .bool _) rfl h29 rfl) ?_
      refine lw_nil ?_
      refine cw_iff rfl (not_f (rfl)) ?_
      refine cw_skip ?_
      refine cw_seq ?_
      refine cw_region ?_
      refine lw_call rfl en26 (newd_sl hs (r := 1000) (by decide) (by decide)) ?_
      clear hs
      rintro _ w ⟨p, rfl, hs⟩
      have pt0 : PtI nU 100 (fun _ => none) (Dk.empty 1000) := PtI.start (by decide)
      first | refine lw_val rfl (run_move (v := .tuple _) rfl) ?_
      first | refine lw_val rfl (run_extract (v := .pointer (some _)) rfl rfl) ?_ | refine lw_val rfl (run_extract (v := .pointer none) rfl rfl) ?_
      first | refine lw_val rfl (run_extract (v := errV ad _) rfl rfl) ?_ | refine lw_val rfl (run_extract (v := .nilIface) rfl rfl) ?_ | refine lw_val rfl (run_extract (v := eV ad _ _) rfl rfl) ?_ | refine lw_val rfl (run_extract (v := .iface _ (.pointer (some _))) rfl rfl) ?_
      first | refine lw_val rfl (run_assign (v := .pointer (some _)) rfl) ?_ | refine lw_val rfl (run_assign (v := .pointer none) rfl) ?_
      first | refine lw_val rfl (run_assign (v := errV ad _) rfl) ?_ | refine lw_val rfl (run_assign (v := .nilIface) rfl) ?_ | refine lw_val rfl (run_assign (v := eV ad _ _) rfl) ?_ | refine lw_val rfl (run_assign (v := .iface _ (.pointer (some _))) rfl) ?_
      refine lw_nil ?_
      refine cw_seq ?_
      refine cw_seq ?_
      refine cw_region ?_
      first | refine lw_val rfl (run_move (v := .pointer (some _)) rfl) ?_ | refine lw_val rfl (run_move (v := .pointer none) rfl) ?_
      refine lw_val rfl (run_eqpn Tryd.underlying45 rfl rfl) ?_
      first | refine lw_val rfl (run_move (v := .bool _) rfl) ?_
      refine lw_on rfl rfl rfl ?_
      first | refine lw_val rfl (run_move (v := errV ad _) rfl) ?_ | refine lw_val rfl (run_move (v := .nilIface) rfl) ?_ | refine lw_val rfl (run_move (v := eV ad _ _) rfl) ?_ | refine lw_val rfl (run_move (v := .iface _ (.pointer (some _))) rfl) ?_
      refine lw_on rfl rfl rfl ?_
      first | refine lw_val rfl (run_neerrn (ad := ad) rfl) ?_ | refine lw_val rfl (run_nenn rfl) ?_ | refine lw_val rfl (run_neE (ad := ad) rfl) ?_
      first | refine lw_val rfl (run_pickF (v := .bool _) rfl rfl rfl) ?_
      refine lw_nil ?_
      refine cw_iff rfl (rfl) ?_
      refine cw_skip ?_
      refine cw_seq ?_
      refine cw_seq ?_
      refine cw_region ?_
      first | refine lw_val rfl (run_move (v := .bool _) rfl) ?_
      refine lw_nil ?_
      refine cw_if rfl ?_ ?_
      · intro h2
        refine cw_seq ?_
        refine cw_seq ?_
        refine cw_region ?_
        first | refine lw_val rfl (run_move (v := .pointer (some _)) rfl) ?_ | refine lw_val rfl (run_move (v := .pointer none) rfl) ?_
        first | refine lw_val rfl (run_move (v := .slice _ _ _) rfl) ?_
        refine lw_call rfl en14 (nums_sl hs (h1.rd _) rfl hl (by omega)) ?_
        clear hs
        rintro _ w ⟨a49, c49, rfl, hs⟩
        obtain ⟨k1, e1, hw1, hr1, hd1⟩ := pt0.write (s := nUp) (b := numsL l) (by simp) nU_new nU_valid.1 nU_valid.2 (by omega) (by show 2 * 1 * 100 + 100 ≤ 1000; decide)
        obtain ⟨rfl, hu1, ha1, hp1⟩ := hd1.resolve_right (fun h => h.2.2.1 rfl)
        refine lw_call rfl en27 (write_sl (d := Dk.empty 1000) (L := [own _ _]) hK (by decide) (hs.arr [1, 0] 2 (by decide)) nUp (by decide) (Rd.own 0 rfl) rfl (by omega) hw1) ?_
        clear hs
        rintro _ w ⟨rfl, hs⟩
        obtain ⟨hok1, _⟩ := hs.openD
        have pt1 := hp1 hok1
        have hrd : e1.pread nUp = (0, numsL l) := by rw [pt1.read (by simp)]; simp [updF, readO]
        obtain ⟨is, v0, v1, v2, v3, hj, hR⟩ := jst_all hl (show l.length ≤ 4096 by omega)
        first | refine lw_val rfl (run_neerrn (ad := ad) rfl) ?_ | refine lw_val rfl (run_nenn rfl) ?_ | refine lw_val rfl (run_neE (ad := ad) rfl) ?_
        refine lw_nil ?_
        refine cw_iff rfl (rfl) ?_
        refine cw_skip ?_
        refine cw_seq ?_
        refine cw_region ?_
        first | refine lw_val rfl (run_move (v := .pointer (some _)) rfl) ?_ | refine lw_val rfl (run_move (v := .pointer none) rfl) ?_
        refine lw_call rfl en28 (jread_sl hE hs (j := (0, is, v0, v1, v2, v3)) (by rw [hrd]; exact hj)) ?_
        clear hs
        rintro _ w ⟨rfl, hs⟩
        first | refine lw_val rfl (run_move (v := .tuple _) rfl) ?_
        first | refine lw_val rfl (run_extract (v := .agg _) rfl rfl) ?_
        first | refine lw_val rfl (run_extract (v := .bool _) rfl rfl) ?_
        first | refine lw_val rfl (run_extract (v := errV ad _) rfl rfl) ?_ | refine lw_val rfl (run_extract (v := .nilIface) rfl rfl) ?_ | refine lw_val rfl (run_extract (v := eV ad _ _) rfl rfl) ?_ | refine lw_val rfl (run_extract (v := .iface _ (.pointer (some _))) rfl rfl) ?_
        refine lw_alloc hs rfl ze50 ?_
        clear hs
        intro b10 w hs
        try simp only [List.set_cons_succ, List.set_cons_zero] at hs
        first | refine lw_storeRow hs 0 rfl rfl rfl sz50 rfl rfl ?_ | refine lw_storeRow hs 1 rfl rfl rfl sz50 rfl rfl ?_ | refine lw_storeRow hs 2 rfl rfl rfl sz50 rfl rfl ?_ | refine lw_storeRow hs 3 rfl rfl rfl sz50 rfl rfl ?_ | refine lw_storeRow hs 4 rfl rfl rfl sz50 rfl rfl ?_ | refine lw_storeRow hs 5 rfl rfl rfl sz50 rfl rfl ?_ | refine lw_storeRow hs 6 rfl rfl rfl sz50 rfl rfl ?_ | refine lw_storeRow hs 7 rfl rfl rfl sz50 rfl rfl ?_ | refine lw_storeRow hs 8 rfl rfl rfl sz50 rfl rfl ?_ | refine lw_storeRow hs 9 rfl rfl rfl sz50 rfl rfl ?_ | refine lw_storeRow hs 10 rfl rfl rfl sz50 rfl rfl ?_ | refine lw_storeRow hs 11 rfl rfl rfl sz50 rfl rfl ?_ | refine lw_storeRow hs 12 rfl rfl rfl sz50 rfl rfl ?_ | refine lw_storeRow hs 13 rfl rfl rfl sz50 rfl rfl ?_
        clear hs
        intro w hs
        try simp only [List.set_cons_succ, List.set_cons_zero] at hs
        first | refine lw_val rfl (run_assign (v := .bool _) rfl) ?_
        first | refine lw_val rfl (run_assign (v := errV ad _) rfl) ?_ | refine lw_val rfl (run_assign (v := .nilIface) rfl) ?_ | refine lw_val rfl (run_assign (v := eV ad _ _) rfl) ?_ | refine lw_val rfl (run_assign (v := .iface _ (.pointer (some _))) rfl) ?_
        refine lw_nil ?_
        refine cw_seq ?_
        refine cw_region ?_
        first | refine lw_val rfl (run_move (v := .slice _ _ _) rfl) ?_
        refine lw_val rfl (run_lenS Tryd.underlying22 rfl) ?_
        refine lw_val rfl (run_eqi rfl rfl) ?_
        first | refine lw_val rfl (run_assign (v := .bool _) rfl) ?_
        refine lw_nil ?_
        refine cw_seq ?_
        refine cw_seq ?_
        refine cw_region ?_
        first | refine lw_val rfl (run_assign (v := .int .i64 _) rfl) ?_
        refine lw_nil ?_
        refine cw_block ?_
        refine cw_loop (X := Nat) [13, 14, 61, 62, 63, 64, 65, 66, 67, 68, 69, 70, 71, 72, 73, 74, 75, 76, 77, 78, 79, 80, 81] (fun q => [(13, .bool (decide (l.length = 4) && (l.take q).all inR)), (14, .int .i64 (q : Nat))]) (fun q w => q ≤ l.length ∧ Mem g w (cells b10 [.int .i64 v0, .int .i64 v1, .int .i64 v2, .int .i64 v3] 50 :: DiskC p e1 :: own (.slice a49 (numsL l).length c49) (bytesL (numsL l)) :: [])) (fun q => l.length - q) (0) ?_ ?_ ?_
        · exact ⟨ret_b (by rw [List.take_zero, List.all_nil, Bool.and_true]; exact decide_eq_decide.2 (by omega)), rfl, trivial⟩
        · exact ⟨Nat.zero_le _, hs⟩
        clear hs
        rintro x ξ w hI
        obtain ⟨hq, hs⟩ := hI
        show cw _ _ _ _ _ _ (updL (mix _ ξ _) [(13, .bool (decide (l.length = 4) && (l.take x).all inR)), (14, .int .i64 (x : Nat))]) w
        refine cw_seq ?_
        refine cw_seq ?_
        refine cw_region ?_
        first | refine lw_val rfl (run_move (v := .int .i64 _) rfl) ?_
        first | refine lw_val rfl (run_move (v := .slice _ _ _) rfl) ?_
        refine lw_val rfl (run_lenS Tryd.underlying22 rfl) ?_
        refine lw_val rfl (run_lss rfl rfl) ?_
        refine lw_nil ?_
        refine cw_if rfl ?_ ?_
        · intro h64
          have g64 := of_decide_eq_true h64
          obtain ⟨v, hv⟩ : ∃ v, l[x]? = some v := ⟨_, List.getElem?_eq_getElem (by omega)⟩
          have hgn := goodB_next hv
          obtain ⟨b5, o5, rfl, _⟩ := (h1.rd _).cells' hs (by rw [intsL_len]; omega)
          refine cw_skip ?_
          refine cw_seq ?_
          refine cw_block ?_
          refine cw_region ?_
          first | refine lw_val rfl (run_move (v := .bool _) rfl) ?_
          first | refine lw_val rfl (run_move (v := .bool _) rfl) ?_
          refine lw_split (t := _) (d := 68) rfl ?_ ?_
          · intro h67
            rw [h67, Bool.true_and] at hgn
            refine lw_on rfl rfl h67 ?_
            first | refine lw_val rfl (run_move (v := .slice _ _ _) rfl) ?_
            refine lw_on rfl rfl h67 ?_
            first | refine lw_val rfl (run_move (v := .int .i64 _) rfl) ?_
            refine lw_on rfl rfl h67 ?_
            refine lw_val rfl (run_indexAddr Tryd.underlying22 sz2 rfl rfl rfl (by omega) rfl) ?_
            refine lw_on rfl rfl h67 ?_
            refine lw_val rfl (run_load Tryd.underlying2 rfl rfl ((h1.rd _).cellAt hs (intsL_at hv))) ?_
            refine lw_on rfl rfl h67 ?_
            refine lw_val rfl (run_geq rfl rfl) ?_
            first | refine lw_val rfl (run_pickT (v := .bool _) rfl h67 rfl) ?_
            first | refine lw_val rfl (run_move (v := .bool _) rfl) ?_
            refine lw_split (t := _) (d := 75) rfl ?_ ?_
            · intro h73
              have g73 := of_decide_eq_true h73
              have hi : inR v = decide (v ≤ 2147483647) := by simp [inR, g73]
              refine lw_on rfl rfl h73 ?_
              first | refine lw_val rfl (run_move (v := .slice _ _ _) rfl) ?_
              refine lw_on rfl rfl h73 ?_
              first | refine lw_val rfl (run_move (v := .int .i64 _) rfl) ?_
              refine lw_on rfl rfl h73 ?_
              refine lw_val rfl (run_indexAddr Tryd.underlying22 sz2 rfl rfl rfl (by omega) rfl) ?_
              refine lw_on rfl rfl h73 ?_
              refine lw_val rfl (run_load Tryd.underlying2 rfl rfl ((h1.rd _).cellAt hs (intsL_at hv))) ?_
              refine lw_on rfl rfl h73 ?_
              refine lw_val rfl (run_leq rfl rfl) ?_
              first | refine lw_val rfl (run_pickT (v := .bool _) rfl h73 rfl) ?_
              first | refine lw_val rfl (run_assign (v := .bool _) rfl) ?_
              refine lw_nil ?_
              refine cw_region ?_
              first | refine lw_val rfl (run_move (v := .int .i64 _) rfl) ?_
              refine lw_val rfl (run_add64 rfl rfl rfl (inI (by omega) (by omega))) ?_
              first | refine lw_val rfl (run_assign (v := .int .i64 _) rfl) ?_
              refine lw_nil ?_
              exact ⟨x + 1, by omega, ⟨by omega, hs⟩, ⟨ret_b (hi.symm.trans hgn.symm), rfl, trivial⟩, by repeat (first | exact Out.mix _ _ _ | refine Out.updo rfl ?_ | refine Out.upd rfl ?_ | refine Out.mixIn rfl ?_)⟩
            · intro h73
              have g73 := of_decide_eq_false h73
              have hi : inR v = false := by simp [inR]; omega
              refine lw_off rfl rfl rfl h73 ?_
              refine lw_off rfl rfl rfl h73 ?_
              refine lw_off rfl rfl rfl h73 ?_
              refine lw_off rfl rfl rfl h73 ?_
              refine lw_off rfl rfl rfl h73 ?_
              first | refine lw_val rfl (run_pickF (v := .bool _) rfl h73 rfl) ?_
              first | refine lw_val rfl (run_assign (v := .bool _) rfl) ?_
              refine lw_nil ?_
              refine cw_region ?_
              first | refine lw_val rfl (run_move (v := .int .i64 _) rfl) ?_
              refine lw_val rfl (run_add64 rfl rfl rfl (inI (by omega) (by omega))) ?_
              first | refine lw_val rfl (run_assign (v := .int .i64 _) rfl) ?_
              refine lw_nil ?_
              exact ⟨x + 1, by omega, ⟨by omega, hs⟩, ⟨ret_b (hgn.trans hi).symm, rfl, trivial⟩, by repeat (first | exact Out.mix _ _ _ | refine Out.updo rfl ?_ | refine Out.upd rfl ?_ | refine Out.mixIn rfl ?_)⟩
          · intro h67
            rw [h67, Bool.false_and] at hgn
            refine lw_off rfl rfl rfl h67 ?_
            refine lw_off rfl rfl rfl h67 ?_
            refine lw_off rfl rfl rfl h67 ?_
            refine lw_off rfl rfl rfl h67 ?_
            refine lw_off rfl rfl rfl h67 ?_
            first | refine lw_val rfl (run_pickF (v := .bool _) rfl h67 rfl) ?_
            first | refine lw_val rfl (run_move (v := .bool _) rfl) ?_
            refine lw_off rfl rfl rfl rfl ?_
            refine lw_off rfl rfl rfl rfl ?_
            refine lw_off rfl rfl rfl rfl ?_
            refine lw_off rfl rfl rfl rfl ?_
            refine lw_off rfl rfl rfl rfl ?_
            first | refine lw_val rfl (run_pickF (v := .bool _) rfl rfl rfl) ?_
            first | refine lw_val rfl (run_assign (v := .bool _) rfl) ?_
            refine lw_nil ?_
            refine cw_region ?_
            first | refine lw_val rfl (run_move (v := .int .i64 _) rfl) ?_
            refine lw_val rfl (run_add64 rfl rfl rfl (inI (by omega) (by omega))) ?_
            first | refine lw_val rfl (run_assign (v := .int .i64 _) rfl) ?_
            refine lw_nil ?_
            exact ⟨x + 1, by omega, ⟨by omega, hs⟩, ⟨ret_b hgn.symm, rfl, trivial⟩, by repeat (first | exact Out.mix _ _ _ | refine Out.updo rfl ?_ | refine Out.upd rfl ?_ | refine Out.mixIn rfl ?_)⟩
        · intro h64
          have g64 := of_decide_eq_false h64
          obtain rfl : x = l.length := by omega
          rw [List.take_length]
          refine cw_exit rfl ?_
          refine cw_seq ?_
          refine cw_seq ?_
          rcases hR with ⟨hR1, hR2, hR3⟩ | ⟨hR1, rfl, rfl, rfl, rfl, hR3⟩
          · skip
            refine cw_region ?_
            first | refine lw_val rfl (run_move (v := .bool _) rfl) ?_
            refine lw_val rfl (run_not rfl) ?_
            refine lw_nil ?_
            refine cw_iff rfl (not_f (hR3)) ?_
            refine cw_skip ?_
            refine cw_seq ?_
            subst hR2
            obtain ⟨b6, o6, rfl, _⟩ := (h1.rd _).cells' hs (by rw [intsL_len]; show 0 < 4; decide)
            refine cw_drawS mixes hs ?_
            intro w tr hK
            replace hs := tr _ hs
            clear tr
            first | refine aw_take 0 rfl (by kernel_rfl) (by kernel_rfl) (by kernel_rfl) rfl (fun w hs => run_move (v := errV ad _) rfl) hK ?_ | refine aw_take 0 rfl (by kernel_rfl) (by kernel_rfl) (by kernel_rfl) rfl (fun w hs => run_move (v := .nilIface) rfl) hK ?_ | refine aw_take 0 rfl (by kernel_rfl) (by kernel_rfl) (by kernel_rfl) rfl (fun w hs => run_move (v := eV ad _ _) rfl) hK ?_ | refine aw_take 0 rfl (by kernel_rfl) (by kernel_rfl) (by kernel_rfl) rfl (fun w hs => run_move (v := .iface _ (.pointer (some _))) rfl) hK ?_
            first | refine aw_take 1 rfl (by kernel_rfl) (by kernel_rfl) (by kernel_rfl) rfl (fun w hs => run_eqerrn (ad := ad) rfl) hK ?_ | refine aw_take 1 rfl (by kernel_rfl) (by kernel_rfl) (by kernel_rfl) rfl (fun w hs => run_eqnn rfl) hK ?_ | refine aw_take 1 rfl (by kernel_rfl) (by kernel_rfl) (by kernel_rfl) rfl (fun w hs => run_eqE (ad := ad) rfl) hK ?_
            first | refine aw_take 2 rfl (by kernel_rfl) (by kernel_rfl) (by kernel_rfl) rfl (fun w hs => run_move (v := .bool _) rfl) hK ?_
            first | refine aw_takeOn 3 rfl (by kernel_rfl) (by kernel_rfl) (by kernel_rfl) rfl rfl rfl (rfl) (fun w hs => run_move (v := .bool _) rfl) hK ?_
            first | refine aw_take 4 rfl (by kernel_rfl) (by kernel_rfl) (by kernel_rfl) rfl (fun w hs => run_pickT (v := .bool _) rfl (rfl) rfl) hK ?_
            first | refine aw_take 5 rfl (by kernel_rfl) (by kernel_rfl) (by kernel_rfl) rfl (fun w hs => run_move (v := .bool _) rfl) hK ?_
            refine aw_split (t := _) (d := 115) rfl ?_ ?_
            · intro h56
              first | refine aw_takeOn 6 rfl (by kernel_rfl) (by kernel_rfl) (by kernel_rfl) rfl rfl rfl h56 (fun w hs => run_fieldAddr (o' := 0) Tryd.underlying50 rfl sz3 rfl rfl rfl) hK ?_ | refine aw_takeOn 6 rfl (by kernel_rfl) (by kernel_rfl) (by kernel_rfl) rfl rfl rfl h56 (fun w hs => run_fieldAddr Tryd.underlying50 rfl sz3 rfl rfl rfl) hK ?_
              first | refine aw_takeOn 7 rfl (by kernel_rfl) (by kernel_rfl) (by kernel_rfl) rfl rfl rfl h56 (fun w hs => run_load Tryd.underlying3 rfl rfl (hs.cellAt 0 rfl rfl)) hK ?_ | refine aw_takeOn 7 rfl (by kernel_rfl) (by kernel_rfl) (by kernel_rfl) rfl rfl rfl h56 (fun w hs => run_load Tryd.underlying3 rfl rfl (hs.cellAt 1 rfl rfl)) hK ?_ | refine aw_takeOn 7 rfl (by kernel_rfl) (by kernel_rfl) (by kernel_rfl) rfl rfl rfl h56 (fun w hs => run_load Tryd.underlying3 rfl rfl (hs.cellAt 2 rfl rfl)) hK ?_ | refine aw_takeOn 7 rfl (by kernel_rfl) (by kernel_rfl) (by kernel_rfl) rfl rfl rfl h56 (fun w hs => run_load Tryd.underlying3 rfl rfl (hs.cellAt 3 rfl rfl)) hK ?_ | refine aw_takeOn 7 rfl (by kernel_rfl) (by kernel_rfl) (by kernel_rfl) rfl rfl rfl h56 (fun w hs => run_load Tryd.underlying3 rfl rfl (hs.cellAt 4 rfl rfl)) hK ?_ | refine aw_takeOn 7 rfl (by kernel_rfl) (by kernel_rfl) (by kernel_rfl) rfl rfl rfl h56 (fun w hs => run_load Tryd.underlying3 rfl rfl (hs.cellAt 5 rfl rfl)) hK ?_ | refine aw_takeOn 7 rfl (by kernel_rfl) (by kernel_rfl) (by kernel_rfl) rfl rfl rfl h56 (fun w hs => run_load Tryd.underlying3 rfl rfl (hs.cellAt 6 rfl rfl)) hK ?_ | refine aw_takeOn 7 rfl (by kernel_rfl) (by kernel_rfl) (by kernel_rfl) rfl rfl rfl h56 (fun w hs => run_load Tryd.underlying3 rfl rfl (hs.cellAt 7 rfl rfl)) hK ?_ | refine aw_takeOn 7 rfl (by kernel_rfl) (by kernel_rfl) (by kernel_rfl) rfl rfl rfl h56 (fun w hs => run_load Tryd.underlying3 rfl rfl (hs.cellAt 8 rfl rfl)) hK ?_ | refine aw_takeOn 7 rfl (by kernel_rfl) (by kernel_rfl) (by kernel_rfl) rfl rfl rfl h56 (fun w hs => run_load Tryd.underlying3 rfl rfl (hs.cellAt 9 rfl rfl)) hK ?_ | refine aw_takeOn 7 rfl (by kernel_rfl) (by kernel_rfl) (by kernel_rfl) rfl rfl rfl h56 (fun w hs => run_load Tryd.underlying3 rfl rfl (hs.cellAt 10 rfl rfl)) hK ?_ | refine aw_takeOn 7 rfl (by kernel_rfl) (by kernel_rfl) (by kernel_rfl) rfl rfl rfl h56 (fun w hs => run_load Tryd.underlying3 rfl rfl (hs.cellAt 11 rfl rfl)) hK ?_ | refine aw_takeOn 7 rfl (by kernel_rfl) (by kernel_rfl) (by kernel_rfl) rfl rfl rfl h56 (fun w hs => run_load Tryd.underlying3 rfl rfl (hs.cellAt 12 rfl rfl)) hK ?_ | refine aw_takeOn 7 rfl (by kernel_rfl) (by kernel_rfl) (by kernel_rfl) rfl rfl rfl h56 (fun w hs => run_load Tryd.underlying3 rfl rfl (hs.cellAt 13 rfl rfl)) hK ?_
              first | refine aw_takeOn 8 rfl (by kernel_rfl) (by kernel_rfl) (by kernel_rfl) rfl rfl rfl h56 (fun w hs => run_move (v := .slice _ _ _) rfl) hK ?_
              refine aw_takeOn 9 rfl (by kernel_rfl) (by kernel_rfl) (by kernel_rfl) rfl rfl rfl h56 (fun w hs => run_indexAddr Tryd.underlying22 sz2 rfl rfl rfl (show 0 < 4 by decide) rfl) hK ?_
              refine aw_takeOn 10 rfl (by kernel_rfl) (by kernel_rfl) (by kernel_rfl) rfl rfl rfl h56 (fun w hs => run_load Tryd.underlying2 rfl rfl ((h1.rd _).cellAt hs (j := 0) rfl)) hK ?_
              refine aw_takeOn 11 rfl (by kernel_rfl) (by kernel_rfl) (by kernel_rfl) rfl rfl rfl h56 (fun w hs => run_eqi rfl rfl) hK ?_
              first | refine aw_take 12 rfl (by kernel_rfl) (by kernel_rfl) (by kernel_rfl) rfl (fun w hs => run_pickT (v := .bool _) rfl h56 rfl) hK ?_
              first | refine aw_take 13 rfl (by kernel_rfl) (by kernel_rfl) (by kernel_rfl) rfl (fun w hs => run_move (v := .bool _) rfl) hK ?_
              first | refine aw_takeOn 14 rfl (by kernel_rfl) (by kernel_rfl) (by kernel_rfl) rfl rfl rfl (decide_eq_true rfl) (fun w hs => run_fieldAddr (o' := 1) Tryd.underlying50 rfl sz3 rfl rfl rfl) hK ?_ | refine aw_takeOn 14 rfl (by kernel_rfl) (by kernel_rfl) (by kernel_rfl) rfl rfl rfl (decide_eq_true rfl) (fun w hs => run_fieldAddr Tryd.underlying50 rfl sz3 rfl rfl rfl) hK ?_
              first | refine aw_takeOn 15 rfl (by kernel_rfl) (by kernel_rfl) (by kernel_rfl) rfl rfl rfl (decide_eq_true rfl) (fun w hs => run_load Tryd.underlying3 rfl rfl (hs.cellAt 0 rfl rfl)) hK ?_ | refine aw_takeOn 15 rfl (by kernel_rfl) (by kernel_rfl) (by kernel_rfl) rfl rfl rfl (decide_eq_true rfl) (fun w hs => run_load Tryd.underlying3 rfl rfl (hs.cellAt 1 rfl rfl)) hK ?_ | refine aw_takeOn 15 rfl (by kernel_rfl) (by kernel_rfl) (by kernel_rfl) rfl rfl rfl (decide_eq_true rfl) (fun w hs => run_load Tryd.underlying3 rfl rfl (hs.cellAt 2 rfl rfl)) hK ?_ | refine aw_takeOn 15 rfl (by kernel_rfl) (by kernel_rfl) (by kernel_rfl) rfl rfl rfl (decide_eq_true rfl) (fun w hs => run_load Tryd.underlying3 rfl rfl (hs.cellAt 3 rfl rfl)) hK ?_ | refine aw_takeOn 15 rfl (by kernel_rfl) (by kernel_rfl) (by kernel_rfl) rfl rfl rfl (decide_eq_true rfl) (fun w hs => run_load Tryd.underlying3 rfl rfl (hs.cellAt 4 rfl rfl)) hK ?_ | refine aw_takeOn 15 rfl (by kernel_rfl) (by kernel_rfl) (by kernel_rfl) rfl rfl rfl (decide_eq_true rfl) (fun w hs => run_load Tryd.underlying3 rfl rfl (hs.cellAt 5 rfl rfl)) hK ?_ | refine aw_takeOn 15 rfl (by kernel_rfl) (by kernel_rfl) (by kernel_rfl) rfl rfl rfl (decide_eq_true rfl) (fun w hs => run_load Tryd.underlying3 rfl rfl (hs.cellAt 6 rfl rfl)) hK ?_ | refine aw_takeOn 15 rfl (by kernel_rfl) (by kernel_rfl) (by kernel_rfl) rfl rfl rfl (decide_eq_true rfl) (fun w hs => run_load Tryd.underlying3 rfl rfl (hs.cellAt 7 rfl rfl)) hK ?_ | refine aw_takeOn 15 rfl (by kernel_rfl) (by kernel_rfl) (by kernel_rfl) rfl rfl rfl (decide_eq_true rfl) (fun w hs => run_load Tryd.underlying3 rfl rfl (hs.cellAt 8 rfl rfl)) hK ?_ | refine aw_takeOn 15 rfl (by kernel_rfl) (by kernel_rfl) (by kernel_rfl) rfl rfl rfl (decide_eq_true rfl) (fun w hs => run_load Tryd.underlying3 rfl rfl (hs.cellAt 9 rfl rfl)) hK ?_ | refine aw_takeOn 15 rfl (by kernel_rfl) (by kernel_rfl) (by kernel_rfl) rfl rfl rfl (decide_eq_true rfl) (fun w hs => run_load Tryd.underlying3 rfl rfl (hs.cellAt 10 rfl rfl)) hK ?_ | refine aw_takeOn 15 rfl (by kernel_rfl) (by kernel_rfl) (by kernel_rfl) rfl rfl rfl (decide_eq_true rfl) (fun w hs => run_load Tryd.underlying3 rfl rfl (hs.cellAt 11 rfl rfl)) hK ?_ | refine aw_takeOn 15 rfl (by kernel_rfl) (by kernel_rfl) (by kernel_rfl) rfl rfl rfl (decide_eq_true rfl) (fun w hs => run_load Tryd.underlying3 rfl rfl (hs.cellAt 12 rfl rfl)) hK ?_ | refine aw_takeOn 15 rfl (by kernel_rfl) (by kernel_rfl) (by kernel_rfl) rfl rfl rfl (decide_eq_true rfl) (fun w hs => run_load Tryd.underlying3 rfl rfl (hs.cellAt 13 rfl rfl)) hK ?_
              first | refine aw_takeOn 16 rfl (by kernel_rfl) (by kernel_rfl) (by kernel_rfl) rfl rfl rfl (decide_eq_true rfl) (fun w hs => run_move (v := .slice _ _ _) rfl) hK ?_
              refine aw_takeOn 17 rfl (by kernel_rfl) (by kernel_rfl) (by kernel_rfl) rfl rfl rfl (decide_eq_true rfl) (fun w hs => run_indexAddr Tryd.underlying22 sz2 rfl rfl rfl (show 1 < 4 by decide) rfl) hK ?_
              refine aw_takeOn 18 rfl (by kernel_rfl) (by kernel_rfl) (by kernel_rfl) rfl rfl rfl (decide_eq_true rfl) (fun w hs => run_load Tryd.underlying2 rfl rfl ((h1.rd _).cellAt hs (j := 1) rfl)) hK ?_
              refine aw_takeOn 19 rfl (by kernel_rfl) (by kernel_rfl) (by kernel_rfl) rfl rfl rfl (decide_eq_true rfl) (fun w hs => run_eqi rfl rfl) hK ?_
              first | refine aw_take 20 rfl (by kernel_rfl) (by kernel_rfl) (by kernel_rfl) rfl (fun w hs => run_pickT (v := .bool _) rfl (decide_eq_true rfl) rfl) hK ?_
              first | refine aw_take 21 rfl (by kernel_rfl) (by kernel_rfl) (by kernel_rfl) rfl (fun w hs => run_move (v := .bool _) rfl) hK ?_
              first | refine aw_takeOn 22 rfl (by kernel_rfl) (by kernel_rfl) (by kernel_rfl) rfl rfl rfl (decide_eq_true rfl) (fun w hs => run_fieldAddr (o' := 2) Tryd.underlying50 rfl sz3 rfl rfl rfl) hK ?_ | refine aw_takeOn 22 rfl (by kernel_rfl) (by kernel_rfl) (by kernel_rfl) rfl rfl rfl (decide_eq_true rfl) (fun w hs => run_fieldAddr Tryd.underlying50 rfl sz3 rfl rfl rfl) hK ?_
              first | refine aw_takeOn 23 rfl (by kernel_rfl) (by kernel_rfl) (by kernel_rfl) rfl rfl rfl (decide_eq_true rfl) (fun w hs => run_load Tryd.underlying3 rfl rfl (hs.cellAt 0 rfl rfl)) hK ?_ | refine aw_takeOn 23 rfl (by kernel_rfl) (by kernel_rfl) (by kernel_rfl) rfl rfl rfl (decide_eq_true rfl) (fun w hs => run_load Tryd.underlying3 rfl rfl (hs.cellAt 1 rfl rfl)) hK ?_ | refine aw_takeOn 23 rfl (by kernel_rfl) (by kernel_rfl) (by kernel_rfl) rfl rfl rfl (decide_eq_true rfl) (fun w hs => run_load Tryd.underlying3 rfl rfl (hs.cellAt 2 rfl rfl)) hK ?_ | refine aw_takeOn 23 rfl (by kernel_rfl) (by kernel_rfl) (by kernel_rfl) rfl rfl rfl (decide_eq_true rfl) (fun w hs => run_load Tryd.underlying3 rfl rfl (hs.cellAt 3 rfl rfl)) hK ?_ | refine aw_takeOn 23 rfl (by kernel_rfl) (by kernel_rfl) (by kernel_rfl) rfl rfl rfl (decide_eq_true rfl) (fun w hs => run_load Tryd.underlying3 rfl rfl (hs.cellAt 4 rfl rfl)) hK ?_ | refine aw_takeOn 23 rfl (by kernel_rfl) (by kernel_rfl) (by kernel_rfl) rfl rfl rfl (decide_eq_true rfl) (fun w hs => run_load Tryd.underlying3 rfl rfl (hs.cellAt 5 rfl rfl)) hK ?_ | refine aw_takeOn 23 rfl (by kernel_rfl) (by kernel_rfl) (by kernel_rfl) rfl rfl rfl (decide_eq_true rfl) (fun w hs => run_load Tryd.underlying3 rfl rfl (hs.cellAt 6 rfl rfl)) hK ?_ | refine aw_takeOn 23 rfl (by kernel_rfl) (by kernel_rfl) (by kernel_rfl) rfl rfl rfl (decide_eq_true rfl) (fun w hs => run_load Tryd.underlying3 rfl rfl (hs.cellAt 7 rfl rfl)) hK ?_ | refine aw_takeOn 23 rfl (by kernel_rfl) (by kernel_rfl) (by kernel_rfl) rfl rfl rfl (decide_eq_true rfl) (fun w hs => run_load Tryd.underlying3 rfl rfl (hs.cellAt 8 rfl rfl)) hK ?_ | refine aw_takeOn 23 rfl (by kernel_rfl) (by kernel_rfl) (by kernel_rfl) rfl rfl rfl (decide_eq_true rfl) (fun w hs => run_load Tryd.underlying3 rfl rfl (hs.cellAt 9 rfl rfl)) hK ?_ | refine aw_takeOn 23 rfl (by kernel_rfl) (by kernel_rfl) (by kernel_rfl) rfl rfl rfl (decide_eq_true rfl) (fun w hs => run_load Tryd.underlying3 rfl rfl (hs.cellAt 10 rfl rfl)) hK ?_ | refine aw_takeOn 23 rfl (by kernel_rfl) (by kernel_rfl) (by kernel_rfl) rfl rfl rfl (decide_eq_true rfl) (fun w hs => run_load Tryd.underlying3 rfl rfl (hs.cellAt 11 rfl rfl)) hK ?_ | refine aw_takeOn 23 rfl (by kernel_rfl) (by kernel_rfl) (by kernel_rfl) rfl rfl rfl (decide_eq_true rfl) (fun w hs => run_load Tryd.underlying3 rfl rfl (hs.cellAt 12 rfl rfl)) hK ?_ | refine aw_takeOn 23 rfl (by kernel_rfl) (by kernel_rfl) (by kernel_rfl) rfl rfl rfl (decide_eq_true rfl) (fun w hs => run_load Tryd.underlying3 rfl rfl (hs.cellAt 13 rfl rfl)) hK ?_
              first | refine aw_takeOn 24 rfl (by kernel_rfl) (by kernel_rfl) (by kernel_rfl) rfl rfl rfl (decide_eq_true rfl) (fun w hs => run_move (v := .slice _ _ _) rfl) hK ?_
              refine aw_takeOn 25 rfl (by kernel_rfl) (by kernel_rfl) (by kernel_rfl) rfl rfl rfl (decide_eq_true rfl) (fun w hs => run_indexAddr Tryd.underlying22 sz2 rfl rfl rfl (show 2 < 4 by decide) rfl) hK ?_
              refine aw_takeOn 26 rfl (by kernel_rfl) (by kernel_rfl) (by kernel_rfl) rfl rfl rfl (decide_eq_true rfl) (fun w hs => run_load Tryd.underlying2 rfl rfl ((h1.rd _).cellAt hs (j := 2) rfl)) hK ?_
              refine aw_takeOn 27 rfl (by kernel_rfl) (by kernel_rfl) (by kernel_rfl) rfl rfl rfl (decide_eq_true rfl) (fun w hs => run_eqi rfl rfl) hK ?_
              first | refine aw_take 28 rfl (by kernel_rfl) (by kernel_rfl) (by kernel_rfl) rfl (fun w hs => run_pickT (v := .bool _) rfl (decide_eq_true rfl) rfl) hK ?_
              first | refine aw_take 29 rfl (by kernel_rfl) (by kernel_rfl) (by kernel_rfl) rfl (fun w hs => run_move (v := .bool _) rfl) hK ?_
              first | refine aw_takeOn 30 rfl (by kernel_rfl) (by kernel_rfl) (by kernel_rfl) rfl rfl rfl (decide_eq_true rfl) (fun w hs => run_fieldAddr (o' := 3) Tryd.underlying50 rfl sz3 rfl rfl rfl) hK ?_ | refine aw_takeOn 30 rfl (by kernel_rfl) (by kernel_rfl) (by kernel_rfl) rfl rfl rfl (decide_eq_true rfl) (fun w hs => run_fieldAddr Tryd.underlying50 rfl sz3 rfl rfl rfl) hK ?_
              first | refine aw_takeOn 31 rfl (by kernel_rfl) (by kernel_rfl) (by kernel_rfl) rfl rfl rfl (decide_eq_true rfl) (fun w hs => run_load Tryd.underlying3 rfl rfl (hs.cellAt 0 rfl rfl)) hK ?_ | refine aw_takeOn 31 rfl (by kernel_rfl) (by kernel_rfl) (by kernel_rfl) rfl rfl rfl (decide_eq_true rfl) (fun w hs => run_load Tryd.underlying3 rfl rfl (hs.cellAt 1 rfl rfl)) hK ?_ | refine aw_takeOn 31 rfl (by kernel_rfl) (by kernel_rfl) (by kernel_rfl) rfl rfl rfl (decide_eq_true rfl) (fun w hs => run_load Tryd.underlying3 rfl rfl (hs.cellAt 2 rfl rfl)) hK ?_ | refine aw_takeOn 31 rfl (by kernel_rfl) (by kernel_rfl) (by kernel_rfl) rfl rfl rfl (decide_eq_true rfl) (fun w hs => run_load Tryd.underlying3 rfl rfl (hs.cellAt 3 rfl rfl)) hK ?_ | refine aw_takeOn 31 rfl (by kernel_rfl) (by kernel_rfl) (by kernel_rfl) rfl rfl rfl (decide_eq_true rfl) (fun w hs => run_load Tryd.underlying3 rfl rfl (hs.cellAt 4 rfl rfl)) hK ?_ | refine aw_takeOn 31 rfl (by kernel_rfl) (by kernel_rfl) (by kernel_rfl) rfl rfl rfl (decide_eq_true rfl) (fun w hs => run_load Tryd.underlying3 rfl rfl (hs.cellAt 5 rfl rfl)) hK ?_ | refine aw_takeOn 31 rfl (by kernel_rfl) (by kernel_rfl) (by kernel_rfl) rfl rfl rfl (decide_eq_true rfl) (fun w hs => run_load Tryd.underlying3 rfl rfl (hs.cellAt 6 rfl rfl)) hK ?_ | refine aw_takeOn 31 rfl (by kernel_rfl) (by kernel_rfl) (by kernel_rfl) rfl rfl rfl (decide_eq_true rfl) (fun w hs => run_load Tryd.underlying3 rfl rfl (hs.cellAt 7 rfl rfl)) hK ?_ | refine aw_takeOn 31 rfl (by kernel_rfl) (by kernel_rfl) (by kernel_rfl) rfl rfl rfl (decide_eq_true rfl) (fun w hs => run_load Tryd.underlying3 rfl rfl (hs.cellAt 8 rfl rfl)) hK ?_ | refine aw_takeOn 31 rfl (by kernel_rfl) (by kernel_rfl) (by kernel_rfl) rfl rfl rfl (decide_eq_true rfl) (fun w hs => run_load Tryd.underlying3 rfl rfl (hs.cellAt 9 rfl rfl)) hK ?_ | refine aw_takeOn 31 rfl (by kernel_rfl) (by kernel_rfl) (by kernel_rfl) rfl rfl rfl (decide_eq_true rfl) (fun w hs => run_load Tryd.underlying3 rfl rfl (hs.cellAt 10 rfl rfl)) hK ?_ | refine aw_takeOn 31 rfl (by kernel_rfl) (by kernel_rfl) (by kernel_rfl) rfl rfl rfl (decide_eq_true rfl) (fun w hs => run_load Tryd.underlying3 rfl rfl (hs.cellAt 11 rfl rfl)) hK ?_ | refine aw_takeOn 31 rfl (by kernel_rfl) (by kernel_rfl) (by kernel_rfl) rfl rfl rfl (decide_eq_true rfl) (fun w hs => run_load Tryd.underlying3 rfl rfl (hs.cellAt 12 rfl rfl)) hK ?_ | refine aw_takeOn 31 rfl (by kernel_rfl) (by kernel_rfl) (by kernel_rfl) rfl rfl rfl (decide_eq_true rfl) (fun w hs => run_load Tryd.underlying3 rfl rfl (hs.cellAt 13 rfl rfl)) hK ?_
              first | refine aw_takeOn 32 rfl (by kernel_rfl) (by kernel_rfl) (by kernel_rfl) rfl rfl rfl (decide_eq_true rfl) (fun w hs => run_move (v := .slice _ _ _) rfl) hK ?_
              refine aw_takeOn 33 rfl (by kernel_rfl) (by kernel_rfl) (by kernel_rfl) rfl rfl rfl (decide_eq_true rfl) (fun w hs => run_indexAddr Tryd.underlying22 sz2 rfl rfl rfl (show 3 < 4 by decide) rfl) hK ?_
              refine aw_takeOn 34 rfl (by kernel_rfl) (by kernel_rfl) (by kernel_rfl) rfl rfl rfl (decide_eq_true rfl) (fun w hs => run_load Tryd.underlying2 rfl rfl ((h1.rd _).cellAt hs (j := 3) rfl)) hK ?_
              refine aw_takeOn 35 rfl (by kernel_rfl) (by kernel_rfl) (by kernel_rfl) rfl rfl rfl (decide_eq_true rfl) (fun w hs => run_eqi rfl rfl) hK ?_
              first | refine aw_take 36 rfl (by kernel_rfl) (by kernel_rfl) (by kernel_rfl) rfl (fun w hs => run_pickT (v := .bool _) rfl (decide_eq_true rfl) rfl) hK ?_
              first | refine aw_take 37 rfl (by kernel_rfl) (by kernel_rfl) (by kernel_rfl) rfl (fun w hs => run_assign (v := .bool _) rfl) hK ?_
              refine aw_done (by kernel_rfl) ?_
              clear hK
              refine cw_ret ?_
              refine res1 (v := .bool _) rfl rfl ?_
              first | exact ⟨_, rfl, ret_b (decide_eq_true rfl), hs.nil⟩ | exact ⟨_, rfl, rfl, hs.nil⟩
            · intro h56
              refine aw_takeOff 6 rfl (by kernel_rfl) (by kernel_rfl) (by kernel_rfl) rfl rfl rfl h56 hK ?_
              refine aw_takeOff 7 rfl (by kernel_rfl) (by kernel_rfl) (by kernel_rfl) rfl rfl rfl h56 hK ?_
              refine aw_takeOff 8 rfl (by kernel_rfl) (by kernel_rfl) (by kernel_rfl) rfl rfl rfl h56 hK ?_
              refine aw_takeOff 9 rfl (by kernel_rfl) (by kernel_rfl) (by kernel_rfl) rfl rfl rfl h56 hK ?_
              refine aw_takeOff 10 rfl (by kernel_rfl) (by kernel_rfl) (by kernel_rfl) rfl rfl rfl h56 hK ?_
              refine aw_takeOff 11 rfl (by kernel_rfl) (by kernel_rfl) (by kernel_rfl) rfl rfl rfl h56 hK ?_
              first | refine aw_take 12 rfl (by kernel_rfl) (by kernel_rfl) (by kernel_rfl) rfl (fun w hs => run_pickF (v := .bool _) rfl h56 rfl) hK ?_
              first | refine aw_take 13 rfl (by kernel_rfl) (by kernel_rfl) (by kernel_rfl) rfl (fun w hs => run_move (v := .bool _) rfl) hK ?_
              refine aw_takeOff 14 rfl (by kernel_rfl) (by kernel_rfl) (by kernel_rfl) rfl rfl rfl rfl hK ?_
              refine aw_takeOff 15 rfl (by kernel_rfl) (by kernel_rfl) (by kernel_rfl) rfl rfl rfl rfl hK ?_
              refine aw_takeOff 16 rfl (by kernel_rfl) (by kernel_rfl) (by kernel_rfl) rfl rfl rfl rfl hK ?_
              refine aw_takeOff 17 rfl (by kernel_rfl) (by kernel_rfl) (by kernel_rfl) rfl rfl rfl rfl hK ?_
              refine aw_takeOff 18 rfl (by kernel_rfl) (by kernel_rfl) (by kernel_rfl) rfl rfl rfl rfl hK ?_
              refine aw_takeOff 19 rfl (by kernel_rfl) (by kernel_rfl) (by kernel_rfl) rfl rfl rfl rfl hK ?_
              first | refine aw_take 20 rfl (by kernel_rfl) (by kernel_rfl) (by kernel_rfl) rfl (fun w hs => run_pickF (v := .bool _) rfl rfl rfl) hK ?_
              first | refine aw_take 21 rfl (by kernel_rfl) (by kernel_rfl) (by kernel_rfl) rfl (fun w hs => run_move (v := .bool _) rfl) hK ?_
              refine aw_takeOff 22 rfl (by kernel_rfl) (by kernel_rfl) (by kernel_rfl) rfl rfl rfl rfl hK ?_
              refine aw_takeOff 23 rfl (by kernel_rfl) (by kernel_rfl) (by kernel_rfl) rfl rfl rfl rfl hK ?_
              refine aw_takeOff 24 rfl (by kernel_rfl) (by kernel_rfl) (by kernel_rfl) rfl rfl rfl rfl hK ?_
              refine aw_takeOff 25 rfl (by kernel_rfl) (by kernel_rfl) (by kernel_rfl) rfl rfl rfl rfl hK ?_
              refine aw_takeOff 26 rfl (by kernel_rfl) (by kernel_rfl) (by kernel_rfl) rfl rfl rfl rfl hK ?_
              refine aw_takeOff 27 rfl (by kernel_rfl) (by kernel_rfl) (by kernel_rfl) rfl rfl rfl rfl hK ?_
              first | refine aw_take 28 rfl (by kernel_rfl) (by kernel_rfl) (by kernel_rfl) rfl (fun w hs => run_pickF (v := .bool _) rfl rfl rfl) hK ?_
              first | refine aw_take 29 rfl (by kernel_rfl) (by kernel_rfl) (by kernel_rfl) rfl (fun w hs => run_move (v := .bool _) rfl) hK ?_
              refine aw_takeOff 30 rfl (by kernel_rfl) (by kernel_rfl) (by kernel_rfl) rfl rfl rfl rfl hK ?_
              refine aw_takeOff 31 rfl (by kernel_rfl) (by kernel_rfl) (by kernel_rfl) rfl rfl rfl rfl hK ?_
              refine aw_takeOff 32 rfl (by kernel_rfl) (by kernel_rfl) (by kernel_rfl) rfl rfl rfl rfl hK ?_
              refine aw_takeOff 33 rfl (by kernel_rfl) (by kernel_rfl) (by kernel_rfl) rfl rfl rfl rfl hK ?_
              refine aw_takeOff 34 rfl (by kernel_rfl) (by kernel_rfl) (by kernel_rfl) rfl rfl rfl rfl hK ?_
              refine aw_takeOff 35 rfl (by kernel_rfl) (by kernel_rfl) (by kernel_rfl) rfl rfl rfl rfl hK ?_
              first | refine aw_take 36 rfl (by kernel_rfl) (by kernel_rfl) (by kernel_rfl) rfl (fun w hs => run_pickF (v := .bool _) rfl rfl rfl) hK ?_
              first | refine aw_take 37 rfl (by kernel_rfl) (by kernel_rfl) (by kernel_rfl) rfl (fun w hs => run_assign (v := .bool _) rfl) hK ?_
              refine aw_done (by kernel_rfl) ?_
              clear hK
              refine cw_ret ?_
              refine res1 (v := .bool _) rfl rfl ?_
              exact absurd (h56.symm.trans hR1) (by decide)
          · skip
            refine cw_region ?_
            first | refine lw_val rfl (run_move (v := .bool _) rfl) ?_
            refine lw_val rfl (run_not rfl) ?_
            refine lw_nil ?_
            refine cw_ift rfl (not_t (hR3)) ?_
            refine cw_seq ?_
            refine cw_region ?_
            first | refine lw_val rfl (run_move (v := errV ad _) rfl) ?_ | refine lw_val rfl (run_move (v := .nilIface) rfl) ?_ | refine lw_val rfl (run_move (v := eV ad _ _) rfl) ?_ | refine lw_val rfl (run_move (v := .iface _ (.pointer (some _))) rfl) ?_
            first | refine lw_val rfl (run_eqerrn (ad := ad) rfl) ?_ | refine lw_val rfl (run_eqnn rfl) ?_ | refine lw_val rfl (run_eqE (ad := ad) rfl) ?_
            first | refine lw_val rfl (run_move (v := .bool _) rfl) ?_
            refine lw_on rfl rfl (rfl) ?_
            first | refine lw_val rfl (run_move (v := .bool _) rfl) ?_
            refine lw_on rfl rfl (rfl) ?_
            refine lw_val rfl (run_not rfl) ?_
            first | refine lw_val rfl (run_pickT (v := .bool _) rfl (rfl) rfl) ?_
            first | refine lw_val rfl (run_move (v := .bool _) rfl) ?_
            refine lw_split (t := _) (d := 90) rfl ?_ ?_
            · intro h56
              replace h56 := not_b h56
              refine lw_on rfl rfl (not_t h56) ?_
              first | refine lw_val rfl (run_fieldAddr (o' := 0) Tryd.underlying50 rfl sz3 rfl rfl rfl) ?_ | refine lw_val rfl (run_fieldAddr Tryd.underlying50 rfl sz3 rfl rfl rfl) ?_
              refine lw_on rfl rfl (not_t h56) ?_
              first | refine lw_val rfl (run_load Tryd.underlying3 rfl rfl (hs.cellAt 0 rfl rfl)) ?_ | refine lw_val rfl (run_load Tryd.underlying3 rfl rfl (hs.cellAt 1 rfl rfl)) ?_ | refine lw_val rfl (run_load Tryd.underlying3 rfl rfl (hs.cellAt 2 rfl rfl)) ?_ | refine lw_val rfl (run_load Tryd.underlying3 rfl rfl (hs.cellAt 3 rfl rfl)) ?_ | refine lw_val rfl (run_load Tryd.underlying3 rfl rfl (hs.cellAt 4 rfl rfl)) ?_ | refine lw_val rfl (run_load Tryd.underlying3 rfl rfl (hs.cellAt 5 rfl rfl)) ?_ | refine lw_val rfl (run_load Tryd.underlying3 rfl rfl (hs.cellAt 6 rfl rfl)) ?_ | refine lw_val rfl (run_load Tryd.underlying3 rfl rfl (hs.cellAt 7 rfl rfl)) ?_ | refine lw_val rfl (run_load Tryd.underlying3 rfl rfl (hs.cellAt 8 rfl rfl)) ?_ | refine lw_val rfl (run_load Tryd.underlying3 rfl rfl (hs.cellAt 9 rfl rfl)) ?_ | refine lw_val rfl (run_load Tryd.underlying3 rfl rfl (hs.cellAt 10 rfl rfl)) ?_ | refine lw_val rfl (run_load Tryd.underlying3 rfl rfl (hs.cellAt 11 rfl rfl)) ?_ | refine lw_val rfl (run_load Tryd.underlying3 rfl rfl (hs.cellAt 12 rfl rfl)) ?_ | refine lw_val rfl (run_load Tryd.underlying3 rfl rfl (hs.cellAt 13 rfl rfl)) ?_
              refine lw_on rfl rfl (not_t h56) ?_
              refine lw_val rfl (run_eqi rfl rfl) ?_
              first | refine lw_val rfl (run_pickT (v := .bool _) rfl (not_t h56) rfl) ?_
              first | refine lw_val rfl (run_move (v := .bool _) rfl) ?_
              refine lw_on rfl rfl (rfl) ?_
              first | refine lw_val rfl (run_fieldAddr (o' := 1) Tryd.underlying50 rfl sz3 rfl rfl rfl) ?_ | refine lw_val rfl (run_fieldAddr Tryd.underlying50 rfl sz3 rfl rfl rfl) ?_
              refine lw_on rfl rfl (rfl) ?_
              first | refine lw_val rfl (run_load Tryd.underlying3 rfl rfl (hs.cellAt 0 rfl rfl)) ?_ | refine lw_val rfl (run_load Tryd.underlying3 rfl rfl (hs.cellAt 1 rfl rfl)) ?_ | refine lw_val rfl (run_load Tryd.underlying3 rfl rfl (hs.cellAt 2 rfl rfl)) ?_ | refine lw_val rfl (run_load Tryd.underlying3 rfl rfl (hs.cellAt 3 rfl rfl)) ?_ | refine lw_val rfl (run_load Tryd.underlying3 rfl rfl (hs.cellAt 4 rfl rfl)) ?_ | refine lw_val rfl (run_load Tryd.underlying3 rfl rfl (hs.cellAt 5 rfl rfl)) ?_ | refine lw_val rfl (run_load Tryd.underlying3 rfl rfl (hs.cellAt 6 rfl rfl)) ?_ | refine lw_val rfl (run_load Tryd.underlying3 rfl rfl (hs.cellAt 7 rfl rfl)) ?_ | refine lw_val rfl (run_load Tryd.underlying3 rfl rfl (hs.cellAt 8 rfl rfl)) ?_ | refine lw_val rfl (run_load Tryd.underlying3 rfl rfl (hs.cellAt 9 rfl rfl)) ?_ | refine lw_val rfl (run_load Tryd.underlying3 rfl rfl (hs.cellAt 10 rfl rfl)) ?_ | refine lw_val rfl (run_load Tryd.underlying3 rfl rfl (hs.cellAt 11 rfl rfl)) ?_ | refine lw_val rfl (run_load Tryd.underlying3 rfl rfl (hs.cellAt 12 rfl rfl)) ?_ | refine lw_val rfl (run_load Tryd.underlying3 rfl rfl (hs.cellAt 13 rfl rfl)) ?_
              refine lw_on rfl rfl (rfl) ?_
              refine lw_val rfl (run_eqi rfl rfl) ?_
              first | refine lw_val rfl (run_pickT (v := .bool _) rfl (rfl) rfl) ?_
              first | refine lw_val rfl (run_move (v := .bool _) rfl) ?_
              refine lw_on rfl rfl (rfl) ?_
              first | refine lw_val rfl (run_fieldAddr (o' := 2) Tryd.underlying50 rfl sz3 rfl rfl rfl) ?_ | refine lw_val rfl (run_fieldAddr Tryd.underlying50 rfl sz3 rfl rfl rfl) ?_
              refine lw_on rfl rfl (rfl) ?_
              first | refine lw_val rfl (run_load Tryd.underlying3 rfl rfl (hs.cellAt 0 rfl rfl)) ?_ | refine lw_val rfl (run_load Tryd.underlying3 rfl rfl (hs.cellAt 1 rfl rfl)) ?_ | refine lw_val rfl (run_load Tryd.underlying3 rfl rfl (hs.cellAt 2 rfl rfl)) ?_ | refine lw_val rfl (run_load Tryd.underlying3 rfl rfl (hs.cellAt 3 rfl rfl)) ?_ | refine lw_val rfl (run_load Tryd.underlying3 rfl rfl (hs.cellAt 4 rfl rfl)) ?_ | refine lw_val rfl (run_load Tryd.underlying3 rfl rfl (hs.cellAt 5 rfl rfl)) ?_ | refine lw_val rfl (run_load Tryd.underlying3 rfl rfl (hs.cellAt 6 rfl rfl)) ?_ | refine lw_val rfl (run_load Tryd.underlying3 rfl rfl (hs.cellAt 7 rfl rfl)) ?_ | refine lw_val rfl (run_load Tryd.underlying3 rfl rfl (hs.cellAt 8 rfl rfl)) ?_ | refine lw_val rfl (run_load Tryd.underlying3 rfl rfl (hs.cellAt 9 rfl rfl)) ?_ | refine lw_val rfl (run_load Tryd.underlying3 rfl rfl (hs.cellAt 10 rfl rfl)) ?_ | refine lw_val rfl (run_load Tryd.underlying3 rfl rfl (hs.cellAt 11 rfl rfl)) ?_ | refine lw_val rfl (run_load Tryd.underlying3 rfl rfl (hs.cellAt 12 rfl rfl)) ?_ | refine lw_val rfl (run_load Tryd.underlying3 rfl rfl (hs.cellAt 13 rfl rfl)) ?_
              refine lw_on rfl rfl (rfl) ?_
              refine lw_val rfl (run_eqi rfl rfl) ?_
              first | refine lw_val rfl (run_pickT (v := .bool _) rfl (rfl) rfl) ?_
              first | refine lw_val rfl (run_move (v := .bool _) rfl) ?_
              refine lw_on rfl rfl (rfl) ?_
              first | refine lw_val rfl (run_fieldAddr (o' := 3) Tryd.underlying50 rfl sz3 rfl rfl rfl) ?_ | refine lw_val rfl (run_fieldAddr Tryd.underlying50 rfl sz3 rfl rfl rfl) ?_
              refine lw_on rfl rfl (rfl) ?_
              first | refine lw_val rfl (run_load Tryd.underlying3 rfl rfl (hs.cellAt 0 rfl rfl)) ?_ | refine lw_val rfl (run_load Tryd.underlying3 rfl rfl (hs.cellAt 1 rfl rfl)) ?_ | refine lw_val rfl (run_load Tryd.underlying3 rfl rfl (hs.cellAt 2 rfl rfl)) ?_ | refine lw_val rfl (run_load Tryd.underlying3 rfl rfl (hs.cellAt 3 rfl rfl)) ?_ | refine lw_val rfl (run_load Tryd.underlying3 rfl rfl (hs.cellAt 4 rfl rfl)) ?_ | refine lw_val rfl (run_load Tryd.underlying3 rfl rfl (hs.cellAt 5 rfl rfl)) ?_ | refine lw_val rfl (run_load Tryd.underlying3 rfl rfl (hs.cellAt 6 rfl rfl)) ?_ | refine lw_val rfl (run_load Tryd.underlying3 rfl rfl (hs.cellAt 7 rfl rfl)) ?_ | refine lw_val rfl (run_load Tryd.underlying3 rfl rfl (hs.cellAt 8 rfl rfl)) ?_ | refine lw_val rfl (run_load Tryd.underlying3 rfl rfl (hs.cellAt 9 rfl rfl)) ?_ | refine lw_val rfl (run_load Tryd.underlying3 rfl rfl (hs.cellAt 10 rfl rfl)) ?_ | refine lw_val rfl (run_load Tryd.underlying3 rfl rfl (hs.cellAt 11 rfl rfl)) ?_ | refine lw_val rfl (run_load Tryd.underlying3 rfl rfl (hs.cellAt 12 rfl rfl)) ?_ | refine lw_val rfl (run_load Tryd.underlying3 rfl rfl (hs.cellAt 13 rfl rfl)) ?_
              refine lw_on rfl rfl (rfl) ?_
              refine lw_val rfl (run_eqi rfl rfl) ?_
              first | refine lw_val rfl (run_pickT (v := .bool _) rfl (rfl) rfl) ?_
              first | refine lw_val rfl (run_assign (v := .bool _) rfl) ?_
              refine lw_nil ?_
              refine cw_ret ?_
              refine res1 (v := .bool _) rfl rfl ?_
              exact ⟨_, rfl, rfl, hs.nil⟩
            · intro h56
              replace h56 := not_c h56
              refine lw_off rfl rfl rfl (not_f h56) ?_
              refine lw_off rfl rfl rfl (not_f h56) ?_
              refine lw_off rfl rfl rfl (not_f h56) ?_
              first | refine lw_val rfl (run_pickF (v := .bool _) rfl (not_f h56) rfl) ?_
              first | refine lw_val rfl (run_move (v := .bool _) rfl) ?_
              refine lw_off rfl rfl rfl rfl ?_
              refine lw_off rfl rfl rfl rfl ?_
              refine lw_off rfl rfl rfl rfl ?_
              first | refine lw_val rfl (run_pickF (v := .bool _) rfl rfl rfl) ?_
              first | refine lw_val rfl (run_move (v := .bool _) rfl) ?_
              refine lw_off rfl rfl rfl rfl ?_
              refine lw_off rfl rfl rfl rfl ?_
              refine lw_off rfl rfl rfl rfl ?_
              first | refine lw_val rfl (run_pickF (v := .bool _) rfl rfl rfl) ?_
              first | refine lw_val rfl (run_move (v := .bool _) rfl) ?_
              refine lw_off rfl rfl rfl rfl ?_
              refine lw_off rfl rfl rfl rfl ?_
              refine lw_off rfl rfl rfl rfl ?_
              first | refine lw_val rfl (run_pickF (v := .bool _) rfl rfl rfl) ?_
              first | refine lw_val rfl (run_assign (v := .bool _) rfl) ?_
              refine lw_nil ?_
              refine cw_ret ?_
              refine res1 (v := .bool _) rfl rfl ?_
              exact absurd (h56.symm.trans hR1) (by decide)
      · intro h2
        refine cw_skip ?_
        refine cw_seq ?_
        refine cw_seq ?_
        refine cw_region ?_
        first | refine lw_val rfl (run_move (v := .pointer (some _)) rfl) ?_ | refine lw_val rfl (run_move (v := .pointer none) rfl) ?_
        refine lw_call rfl en29 (create_sl hK hs (by decide) nUp jb_create) ?_
        clear hs
        rintro _ w ⟨rfl, hs⟩
        first | refine lw_val rfl (run_neerrn (ad := ad) rfl) ?_ | refine lw_val rfl (run_nenn rfl) ?_ | refine lw_val rfl (run_neE (ad := ad) rfl) ?_
        first | refine lw_val rfl (run_move (v := .bool _) rfl) ?_
        refine lw_on rfl rfl (rfl) ?_
        first | refine lw_val rfl (run_move (v := .pointer (some _)) rfl) ?_ | refine lw_val rfl (run_move (v := .pointer none) rfl) ?_
        refine lw_on rfl rfl (rfl) ?_
        first | refine lw_val rfl (run_move (v := .slice _ _ _) rfl) ?_
        refine lw_on rfl rfl (rfl) ?_
        refine lw_call rfl en30 (append_sl hK hs (by decide) nUp (x := b) (h0.rd _) rfl (by omega) (jb_append (by omega))) ?_
        clear hs
        rintro _ w ⟨rfl, hs⟩
        refine lw_on rfl rfl (rfl) ?_
        first | refine lw_val rfl (run_neerrn (ad := ad) rfl) ?_ | refine lw_val rfl (run_nenn rfl) ?_ | refine lw_val rfl (run_neE (ad := ad) rfl) ?_
        first | refine lw_val rfl (run_pickF (v := .bool _) rfl (rfl) rfl) ?_
        refine lw_nil ?_
        obtain ⟨kb, xb, hob⟩ : ∃ kb xb, openL b = (kb, xb) := ⟨_, _, rfl⟩
        have hkc := (openL_code b).1
        rw [hob] at hkc
        obtain ⟨is, v0, v1, v2, v3, hj, hR⟩ := jst_code (k := kb) xb (by simp only at hkc; omega)
        refine cw_iff rfl (rfl) ?_
        refine cw_skip ?_
        refine cw_seq ?_
        refine cw_region ?_
        first | refine lw_val rfl (run_move (v := .pointer (some _)) rfl) ?_ | refine lw_val rfl (run_move (v := .pointer none) rfl) ?_
        refine lw_call rfl en28 (jread_sl hE hs (j := (0, is, v0, v1, v2, v3)) (by rw [jb_read, hob]; exact hj)) ?_
        clear hs
        rintro _ w ⟨rfl, hs⟩
        first | refine lw_val rfl (run_move (v := .tuple _) rfl) ?_
        first | refine lw_val rfl (run_extract (v := .agg _) rfl rfl) ?_
        first | refine lw_val rfl (run_extract (v := .bool _) rfl rfl) ?_
        first | refine lw_val rfl (run_extract (v := errV ad _) rfl rfl) ?_ | refine lw_val rfl (run_extract (v := .nilIface) rfl rfl) ?_ | refine lw_val rfl (run_extract (v := eV ad _ _) rfl rfl) ?_ | refine lw_val rfl (run_extract (v := .iface _ (.pointer (some _))) rfl rfl) ?_
        refine lw_alloc hs rfl ze50 ?_
        clear hs
        intro b15 w hs
        try simp only [List.set_cons_succ, List.set_cons_zero] at hs
        first | refine lw_storeRow hs 0 rfl rfl rfl sz50 rfl rfl ?_ | refine lw_storeRow hs 1 rfl rfl rfl sz50 rfl rfl ?_ | refine lw_storeRow hs 2 rfl rfl rfl sz50 rfl rfl ?_ | refine lw_storeRow hs 3 rfl rfl rfl sz50 rfl rfl ?_ | refine lw_storeRow hs 4 rfl rfl rfl sz50 rfl rfl ?_ | refine lw_storeRow hs 5 rfl rfl rfl sz50 rfl rfl ?_ | refine lw_storeRow hs 6 rfl rfl rfl sz50 rfl rfl ?_ | refine lw_storeRow hs 7 rfl rfl rfl sz50 rfl rfl ?_ | refine lw_storeRow hs 8 rfl rfl rfl sz50 rfl rfl ?_ | refine lw_storeRow hs 9 rfl rfl rfl sz50 rfl rfl ?_ | refine lw_storeRow hs 10 rfl rfl rfl sz50 rfl rfl ?_ | refine lw_storeRow hs 11 rfl rfl rfl sz50 rfl rfl ?_ | refine lw_storeRow hs 12 rfl rfl rfl sz50 rfl rfl ?_ | refine lw_storeRow hs 13 rfl rfl rfl sz50 rfl rfl ?_
        clear hs
        intro w hs
        try simp only [List.set_cons_succ, List.set_cons_zero] at hs
        first | refine lw_val rfl (run_assign (v := .bool _) rfl) ?_
        first | refine lw_val rfl (run_assign (v := errV ad _) rfl) ?_ | refine lw_val rfl (run_assign (v := .nilIface) rfl) ?_ | refine lw_val rfl (run_assign (v := eV ad _ _) rfl) ?_ | refine lw_val rfl (run_assign (v := .iface _ (.pointer (some _))) rfl) ?_
        refine lw_nil ?_
        refine cw_seq ?_
        refine cw_region ?_
        first | refine lw_val rfl (run_move (v := .pointer (some _)) rfl) ?_ | refine lw_val rfl (run_move (v := .pointer none) rfl) ?_
        refine lw_call rfl en31 (pread_sl (L := cells _ _ _ :: []) hP (hs.arr [1, 0] 2 (by decide)) nUp ((jb_read b).trans hob)) ?_
        clear hs
        rintro _ w ⟨a164, c164, rfl, hs⟩
        first | refine lw_val rfl (run_move (v := .tuple _) rfl) ?_
        first | refine lw_val rfl (run_extract (v := .slice _ _ _) rfl rfl) ?_
        first | refine lw_val rfl (run_extract (v := errV ad _) rfl rfl) ?_ | refine lw_val rfl (run_extract (v := .nilIface) rfl rfl) ?_ | refine lw_val rfl (run_extract (v := eV ad _ _) rfl rfl) ?_ | refine lw_val rfl (run_extract (v := .iface _ (.pointer (some _))) rfl rfl) ?_
        first | refine lw_val rfl (run_assign (v := .slice _ _ _) rfl) ?_
        first | refine lw_val rfl (run_assign (v := errV ad _) rfl) ?_ | refine lw_val rfl (run_assign (v := .nilIface) rfl) ?_ | refine lw_val rfl (run_assign (v := eV ad _ _) rfl) ?_ | refine lw_val rfl (run_assign (v := .iface _ (.pointer (some _))) rfl) ?_
        refine lw_nil ?_
        refine cw_seq ?_
        refine cw_region ?_
        first | refine lw_val rfl (run_move (v := errV ad _) rfl) ?_ | refine lw_val rfl (run_move (v := .nilIface) rfl) ?_ | refine lw_val rfl (run_move (v := eV ad _ _) rfl) ?_ | refine lw_val rfl (run_move (v := .iface _ (.pointer (some _))) rfl) ?_
        first | refine lw_val rfl (run_eqerrn (ad := ad) rfl) ?_ | refine lw_val rfl (run_eqnn rfl) ?_ | refine lw_val rfl (run_eqE (ad := ad) rfl) ?_
        first | refine lw_val rfl (run_move (v := .bool _) rfl) ?_
        refine lw_on rfl rfl (rfl) ?_
        first | refine lw_val rfl (run_move (v := errV ad _) rfl) ?_ | refine lw_val rfl (run_move (v := .nilIface) rfl) ?_ | refine lw_val rfl (run_move (v := eV ad _ _) rfl) ?_ | refine lw_val rfl (run_move (v := .iface _ (.pointer (some _))) rfl) ?_
        refine lw_on rfl rfl (rfl) ?_
        first | refine lw_val rfl (run_eqerrn (ad := ad) rfl) ?_ | refine lw_val rfl (run_eqnn rfl) ?_ | refine lw_val rfl (run_eqE (ad := ad) rfl) ?_
        refine lw_on rfl rfl (rfl) ?_
        first | refine lw_val rfl (run_move (v := .bool _) rfl) ?_
        refine lw_split (t := _) (d := 172) rfl ?_ ?_
        · intro h171
          have g171 := of_decide_eq_true h171
          refine lw_off rfl rfl rfl h171 ?_
          refine lw_off rfl rfl rfl h171 ?_
          refine lw_on rfl rfl (rfl) ?_
          first | refine lw_val rfl (run_pickT (v := .bool _) rfl h171 rfl) ?_
          first | refine lw_val rfl (run_pickT (v := .bool _) rfl (rfl) rfl) ?_
          first | refine lw_val rfl (run_assign (v := .bool _) rfl) ?_
          refine lw_nil ?_
          refine cw_ret ?_
          refine res1 (v := .bool _) rfl rfl ?_
          exact ⟨_, rfl, rfl, hs.nil⟩
        · intro h171
          have g171 := of_decide_eq_false h171
          have hz : is = false := hR (of_decide_eq_false h171)
          refine lw_on rfl rfl h171 ?_
          first | refine lw_val rfl (run_move (v := .bool _) rfl) ?_
          refine lw_on rfl rfl h171 ?_
          refine lw_val rfl (run_not rfl) ?_
          refine lw_on rfl rfl (rfl) ?_
          first | refine lw_val rfl (run_pickF (v := .bool _) rfl h171 rfl) ?_
          first | refine lw_val rfl (run_pickT (v := .bool _) rfl (rfl) rfl) ?_
          first | refine lw_val rfl (run_assign (v := .bool _) rfl) ?_
          refine lw_nil ?_
          refine cw_ret ?_
          refine res1 (v := .bool _) rfl rfl ?_
          exact ⟨_, rfl, ret_b (by rw [hz]; rfl), hs.nil⟩
end Go.Proofs.YtmnfehbnjgmgjaaDoor
