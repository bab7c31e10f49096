/- The law JourAnew. -/
import Derived.Test.YtmnfehbnjgmgjaaDoorJs
namespace Go.Proofs.YtmnfehbnjgmgjaaDoor
set_option linter.all false
open Go.RowKit
attribute [local irreducible] errV eV
variable {g w : World} {L M : List HP} {ad : Nat → Addr} {p : Nat} {d : Dk}

def nOt : ByteArray := ⟨#[111, 116, 104, 101, 114]⟩
theorem and_mask (z : Int) (m : Nat) (hm : m < 9223372036854775808) : ∃ q : Nat, q ≤ m ∧ bits .and .i64 z (m : Int) = (q : Int) := by
  have hx : (BitVec.ofInt 64 z).toNat &&& m ≤ m := Nat.and_le_right
  refine ⟨(BitVec.ofInt 64 z).toNat &&& m, hx, ?_⟩
  show IntKind.i64.wrap ((BitVec.ofInt 64 z &&& BitVec.ofInt 64 (m : Int)).toNat : Int) = _
  rw [BitVec.toNat_and, u64_nat m (by omega)]
  exact wrap_i64 ⟨by omega, by omega⟩
structure AnI (b : List UInt8) (cur : Option S4) (d : Dk) : Prop where
  up : UpD d
  arm : d.armed = 0
  room : d.room = 2000
  oth : aget d.names nOt = some 1
  file : aget d.fs 1 = some ⟨1, b, 0⟩
  jn : Under d nUp (cur.map fun s => numsL (s4L s))
  keys : ∀ n ∈ keysOf d.names, n ∈ [nOt, nUp, newN nUp]
  len : ∀ i F, aget d.fs i = some F → F.b.length ≤ 60
  cok : ∀ s, cur = some s → (s4L s).all inR = true
theorem nOt_ne : nOt ≠ nUp ∧ nOt ≠ newN nUp ∧ validB nOt.data.toList = true := by decide +kernel
theorem AnI.write {b : List UInt8} {cur : Option S4} (h : AnI b cur d) {s : S4} (hs : (s4L s).all inR = true) : ∃ e, d.jwrite (s4L s) = (0, e) ∧ e.calls ≤ d.calls + 6 ∧ (e.ok → AnI b (some s) e) := by
  have hn := nums4_len (l := s4L s) rfl
  have hwl : (wl nUp d).length ≤ 3 := Nat.le_trans (adel_len _ _) (by
    have h1 : (keysOf d.names).length ≤ [nOt, nUp, newN nUp].length := h.up.ok.nnd.length_le_of_subset fun n hn => h.keys n hn
    simpa [keysOf] using h1)
  have hu := useL_le h.len (wl nUp d)
  obtain ⟨k, e, hw, hd⟩ := h.up.write (s := nUp) (b := numsL (s4L s)) nU_valid.1 nU_valid.2 (by
    have : (wl nUp d).length * 60 ≤ 3 * 60 := Nat.mul_le_mul_right _ hwl
    rw [h.room]; omega)
  obtain ⟨rfl, m⟩ := hd.resolve_right (fun h1 => h1.2.2.1 h.arm)
  have hag : ∀ n, n ≠ nUp → n ≠ newN nUp → aget e.names n = aget d.names n := fun n h1 h2 => by rw [m.names, aget_put_other _ _ h1, wl, aget_adel h2]
  refine ⟨e, by simp [Dk.jwrite, hs, hw], Dk.write_calls hw, fun he => ⟨⟨he, m.up⟩, m.arm h.arm, m.room.trans h.room, (hag _ nOt_ne.1 nOt_ne.2.1).trans h.oth, m.old _ _ h.file, ⟨_, _, by rw [m.names, aget_put_same], m.new⟩, fun n hk => ?_, fun i F hF => ?_, fun t ht => by cases ht; exact hs⟩⟩
  · by_cases e1 : n = nUp
    · subst e1; simp
    · by_cases e2 : n = newN nUp
      · subst e2; simp
      · obtain ⟨v, hv⟩ := aget_of_key hk
        rw [hag n e1 e2] at hv
        exact h.keys n (aget_keys hv)
  · rw [m.fs] at hF
    by_cases e1 : i = d.files + 1
    · subst e1; rw [aget_app_new h.up.key] at hF; cases hF; show (sealL _).length ≤ 60; rw [sealL_len]; omega
    · rw [aget_app_old h.up.key e1] at hF; exact h.len i F hF
theorem AnI.gone {b : List UInt8} {cur : Option S4} (h : AnI b cur d) : ∃ e, d.jremove = (0, e) ∧ e.calls ≤ d.calls + 2 ∧ (e.ok → AnI b none e) := by
  have hu := h.up.up
  have ha := h.arm
  cases hn : aget d.names nUp with
  | none =>
    have hr : d.remove nUp = (107, d) := by simp only [Dk.remove, Dk.find_none hu ha hn]
    have hj : d.jremove = d.syncDir := by simp [Dk.jremove, hr]
    rw [hj, Dk.syncDir_up hu ha]
    exact ⟨_, rfl, by simp only; omega, fun he => ⟨⟨he, hu⟩, ha, h.room, h.oth, h.file, hn, h.keys, h.len, fun s hs => by cases hs⟩⟩
  | some i =>
    have hr := Dk.remove_up hu ha hn
    have hj : d.jremove = (d.change ⟨ByteArray.empty, nUp, none⟩).syncDir := by simp [Dk.jremove, hr]
    have hnm : (d.change ⟨ByteArray.empty, nUp, none⟩).names = adel d.names nUp := by
      simp only [Dk.change, Chg.app]
      rw [if_neg (by decide)]
    rw [hj, Dk.syncDir_up (d := d.change ⟨ByteArray.empty, nUp, none⟩) hu ha]
    refine ⟨_, rfl, by simp only [Dk.change]; omega, fun he => ⟨⟨he, hu⟩, ha, h.room, ?_, h.file, ?_, fun n hk => ?_, h.len, fun s hs => by cases hs⟩⟩
    · show aget (d.change ⟨ByteArray.empty, nUp, none⟩).names nOt = some 1
      rw [hnm, aget_adel nOt_ne.1]; exact h.oth
    · show aget (d.change ⟨ByteArray.empty, nUp, none⟩).names nUp = none
      rw [hnm]; exact aget_del_same h.up.ok.nnd nUp
    · have hk : n ∈ keysOf (d.change ⟨ByteArray.empty, nUp, none⟩).names := hk
      rw [hnm] at hk
      obtain ⟨v, hv⟩ := aget_of_key hk
      exact h.keys n (List.mem_map_of_mem (f := Prod.fst) (adel_in (aget_mem hv)))
theorem AnI.read {b : List UInt8} {cur : Option S4} (h : AnI b cur d) : jst (d.pread nUp) = curJ cur := by
  rw [h.jn.read h.up.up]
  cases cur with
  | none =>
    have hv : vget [] = (101, 0, 0) := vgetF_none rfl
    have h2 : rnums [] = (101, []) := by simp [rnums, vnum, hv, rloop]
    exact jst_none h2 (by decide) (.inl (by decide))
  | some s => exact jst_some (x := s.1) (y := s.2.1) (z := s.2.2.1) (u := s.2.2.2) (rnums_nums (all_I (h.cok s rfl)) (by simp [s4L])) (h.cok s rfl)
def an1 : Dk := ⟨2000, [(nOt, 1)], [], [⟨nOt, ByteArray.empty, some 1⟩], 1, 0, false, 1, [(1, ⟨1, [], 0⟩)]⟩
def an2 (b : List UInt8) : Dk := ⟨2000, [(nOt, 1)], [], [⟨nOt, ByteArray.empty, some 1⟩], 1, 0, false, 2, [(1, ⟨1, b, 0⟩)]⟩
theorem an_create : (Dk.empty 2000).create nOt = (0, an1) := by
  rw [Dk.create_up rfl rfl nOt_ne.2.2 rfl]; rfl
theorem an_append {b : List UInt8} (h : b.length ≤ 50) : an1.append nOt b = (0, an2 b) := by
  rw [Dk.append_up (i := 1) rfl rfl (by simp [an1, aget]) (by show 0 + b.length ≤ 2000; omega)]
  simp [an1, an2, Dk.setF, Dk.fl, aget, aput]
theorem AnI.start {b : List UInt8} (h : b.length ≤ 50) (ho : (an2 b).ok) : AnI b none (an2 b) := by
  refine ⟨⟨ho, rfl⟩, rfl, rfl, by simp [an2, aget], by simp [an2, aget], by show aget [(nOt, 1)] nUp = none; simp [aget, nOt_ne.1], fun n hn => by simp [an2, keysOf] at hn; simp [hn], fun i F hF => ?_, fun s hs => by cases hs⟩
  simp only [an2, aget] at hF
  split at hF
  · cases hF; show b.length ≤ 60; omega
  · cases hF
set_option maxRecDepth 100000 in
set_option maxHeartbeats 4000000 in
theorem jourAnew_sl (hE : ErrJ ad g) (hs : Mem g w []) {a0 a1 : Option Addr} {n0 n1 c0 c1 : Nat} {l : List Int} {b : List UInt8} (h0 : Came g (.slice a0 n0 c0) (intsL l)) (h1 : Came g (.slice a1 n1 c1) (bytesL b)) (e0 : n0 = l.length) (e1 : n1 = b.length) :
    Calls Tryd.prog 6 #[.slice a0 n0 c0, .slice a1 n1 c1] w (Ret fun v w' => v = .bool true ∧ Mem g w' []) := by
  subst e0 e1
  have hK : ErrK ad g := hE.sub (by decide)
  refine calls_cw Tryd.func6 rfl rfl ?_
  skip
  refine cw_seq ?_
  refine cw_region ?_
  first | refine lw_val rfl (run_assign (v := .bool _) rfl) ?_
  refine lw_nil ?_
  refine cw_seq ?_
  refine cw_region ?_
  refine lw_call rfl en25 (first20_sl hE hs) ?_
  clear hs
  rintro _ w ⟨rfl, hs⟩
  first | refine lw_val rfl (run_assign (v := .bool _) rfl) ?_
  refine lw_nil ?_
  refine cw_seq ?_
  refine cw_seq ?_
  refine cw_region ?_
  first | refine lw_val rfl (run_move (v := .bool _) rfl) ?_
  refine lw_val rfl (run_not rfl) ?_
  refine lw_nil ?_
  refine cw_iff rfl (not_f (rfl)) ?_
  refine cw_skip ?_
  refine cw_seq ?_
  refine cw_seq ?_
  refine cw_region ?_
  first | refine lw_val rfl (run_move (v := .slice _ _ _) rfl) ?_
  refine lw_val rfl (run_lenS Tryd.underlying63 rfl) ?_
  refine lw_val rfl (run_gtr rfl rfl) ?_
  first | refine lw_val rfl (run_move (v := .bool _) rfl) ?_
  refine lw_split (t := _) (d := 22) rfl ?_ ?_
  · intro h21
    have g21 := of_decide_eq_true h21
    refine lw_off rfl rfl rfl h21 ?_
    refine lw_off rfl rfl rfl h21 ?_
    refine lw_off rfl rfl rfl h21 ?_
    first | refine lw_val rfl (run_pickT (v := .bool _) rfl h21 rfl) ?_
    first | refine lw_val rfl (run_move (v := .bool _) rfl) ?_
    refine lw_off rfl rfl rfl rfl ?_
    refine lw_off rfl rfl rfl rfl ?_
    first | refine lw_val rfl (run_pickT (v := .bool _) rfl rfl rfl) ?_
    refine lw_nil ?_
    refine cw_ift rfl rfl ?_
    refine cw_seq ?_
    refine cw_region ?_
    first | refine lw_val rfl (run_move (v := .bool _) rfl) ?_
    first | refine lw_val rfl (run_assign (v := .bool _) rfl) ?_
    refine lw_nil ?_
    refine cw_ret ?_
    refine res1 (v := .bool _) rfl rfl ?_
    exact ⟨_, rfl, rfl, hs⟩
  · intro h21
    have g21 := of_decide_eq_false h21
    refine lw_on rfl rfl h21 ?_
    first | refine lw_val rfl (run_move (v := .slice _ _ _) rfl) ?_
    refine lw_on rfl rfl h21 ?_
    refine lw_val rfl (run_lenS Tryd.underlying23 rfl) ?_
    refine lw_on rfl rfl h21 ?_
    refine lw_val rfl (run_gtr rfl rfl) ?_
    first | refine lw_val rfl (run_pickF (v := .bool _) rfl h21 rfl) ?_
    first | refine lw_val rfl (run_move (v := .bool _) rfl) ?_
    refine lw_split (t := _) (d := 27) rfl ?_ ?_
    · intro h25
      have g25 := of_decide_eq_true h25
      refine lw_off rfl rfl rfl h25 ?_
      refine lw_off rfl rfl rfl h25 ?_
      first | refine lw_val rfl (run_pickT (v := .bool _) rfl h25 rfl) ?_
      refine lw_nil ?_
      refine cw_ift rfl rfl ?_
      refine cw_seq ?_
      refine cw_region ?_
      first | refine lw_val rfl (run_move (v := .bool _) rfl) ?_
      first | refine lw_val rfl (run_assign (v := .bool _) rfl) ?_
      refine lw_nil ?_
      refine cw_ret ?_
      refine res1 (v := .bool _) rfl rfl ?_
      exact ⟨_, rfl, rfl, hs⟩
    · intro h25
      have g25 := of_decide_eq_false h25
      refine lw_on rfl rfl h25 ?_
      first | refine lw_val rfl (run_move (v := .bool _) rfl) ?_
      refine lw_on rfl rfl h25 ?_
      refine lw_val rfl (run_not rfl) ?_
      first | refine lw_val rfl (run_pickF (v := .bool _) rfl h25 rfl) ?_
      refine lw_nil ?_
      refine cw_iff rfl (not_f (rfl)) ?_
      refine cw_skip ?_
      refine cw_seq ?_
      refine cw_region ?_
      refine lw_call rfl en26 (newd_sl hs (r := 2000) (by decide) (by decide)) ?_
      clear hs
      rintro _ w ⟨p, rfl, hs⟩
      first | refine lw_val rfl (run_move (v := .tuple _) rfl) ?_
      first | refine lw_val rfl (run_extract (v := .pointer (some _)) rfl rfl) ?_ | refine lw_val rfl (run_extract (v := .pointer none) rfl rfl) ?_
      first | refine lw_val rfl (run_extract (v := errV ad _) rfl rfl) ?_ | refine lw_val rfl (run_extract (v := .nilIface) rfl rfl) ?_ | refine lw_val rfl (run_extract (v := eV ad _ _) rfl rfl) ?_ | refine lw_val rfl (run_extract (v := .iface _ (.pointer (some _))) rfl rfl) ?_
      first | refine lw_val rfl (run_assign (v := .pointer (some _)) rfl) ?_ | refine lw_val rfl (run_assign (v := .pointer none) rfl) ?_
      first | refine lw_val rfl (run_assign (v := errV ad _) rfl) ?_ | refine lw_val rfl (run_assign (v := .nilIface) rfl) ?_ | refine lw_val rfl (run_assign (v := eV ad _ _) rfl) ?_ | refine lw_val rfl (run_assign (v := .iface _ (.pointer (some _))) rfl) ?_
      refine lw_nil ?_
      refine cw_seq ?_
      refine cw_seq ?_
      refine cw_region ?_
      first | refine lw_val rfl (run_move (v := .pointer (some _)) rfl) ?_ | refine lw_val rfl (run_move (v := .pointer none) rfl) ?_
      refine lw_val rfl (run_eqpn Tryd.underlying45 rfl rfl) ?_
      first | refine lw_val rfl (run_move (v := .bool _) rfl) ?_
      refine lw_on rfl rfl rfl ?_
      first | refine lw_val rfl (run_move (v := errV ad _) rfl) ?_ | refine lw_val rfl (run_move (v := .nilIface) rfl) ?_ | refine lw_val rfl (run_move (v := eV ad _ _) rfl) ?_ | refine lw_val rfl (run_move (v := .iface _ (.pointer (some _))) rfl) ?_
      refine lw_on rfl rfl rfl ?_
      first | refine lw_val rfl (run_neerrn (ad := ad) rfl) ?_ | refine lw_val rfl (run_nenn rfl) ?_ | refine lw_val rfl (run_neE (ad := ad) rfl) ?_
      first | refine lw_val rfl (run_pickF (v := .bool _) rfl rfl rfl) ?_
      first | refine lw_val rfl (run_move (v := .bool _) rfl) ?_
      refine lw_on rfl rfl (rfl) ?_
      first | refine lw_val rfl (run_move (v := .pointer (some _)) rfl) ?_ | refine lw_val rfl (run_move (v := .pointer none) rfl) ?_
      refine lw_on rfl rfl (rfl) ?_
      refine lw_call rfl en29 (create_sl hK hs (by decide) nOt an_create) ?_
      clear hs
      rintro _ w ⟨rfl, hs⟩
      refine lw_on rfl rfl (rfl) ?_
      first | refine lw_val rfl (run_neerrn (ad := ad) rfl) ?_ | refine lw_val rfl (run_nenn rfl) ?_ | refine lw_val rfl (run_neE (ad := ad) rfl) ?_
      first | refine lw_val rfl (run_pickF (v := .bool _) rfl (rfl) rfl) ?_
      first | refine lw_val rfl (run_move (v := .bool _) rfl) ?_
      refine lw_on rfl rfl (rfl) ?_
      first | refine lw_val rfl (run_move (v := .pointer (some _)) rfl) ?_ | refine lw_val rfl (run_move (v := .pointer none) rfl) ?_
      refine lw_on rfl rfl (rfl) ?_
      first | refine lw_val rfl (run_move (v := .slice _ _ _) rfl) ?_
      refine lw_on rfl rfl (rfl) ?_
      refine lw_call rfl en30 (append_sl hK hs (by decide) nOt (x := b) (h1.rd _) rfl (by omega) (an_append (by omega))) ?_
      clear hs
      rintro _ w ⟨rfl, hs⟩
      refine lw_on rfl rfl (rfl) ?_
      first | refine lw_val rfl (run_neerrn (ad := ad) rfl) ?_ | refine lw_val rfl (run_nenn rfl) ?_ | refine lw_val rfl (run_neE (ad := ad) rfl) ?_
      first | refine lw_val rfl (run_pickF (v := .bool _) rfl (rfl) rfl) ?_
      refine lw_nil ?_
      refine cw_iff rfl (rfl) ?_
      refine cw_skip ?_
      refine cw_seq ?_
      obtain ⟨hok0, _⟩ := hs.openD
      have han0 := AnI.start (show b.length ≤ 50 by omega) hok0
      refine cw_region ?_
      first | refine lw_val rfl (run_assign (v := .bool _) rfl) ?_
      refine lw_nil ?_
      refine cw_seq ?_
      refine cw_region ?_
      refine lw_val rfl (run_build Tryd.underlying50 ze50 pl50 rfl) ?_
      refine lw_alloc hs rfl ze50 ?_
      clear hs
      intro b9 w hs
      try simp only [List.set_cons_succ, List.set_cons_zero] at hs
      first | refine lw_storeRow hs 0 rfl rfl rfl sz50 rfl rfl ?_ | refine lw_storeRow hs 1 rfl rfl rfl sz50 rfl rfl ?_ | refine lw_storeRow hs 2 rfl rfl rfl sz50 rfl rfl ?_ | refine lw_storeRow hs 3 rfl rfl rfl sz50 rfl rfl ?_ | refine lw_storeRow hs 4 rfl rfl rfl sz50 rfl rfl ?_ | refine lw_storeRow hs 5 rfl rfl rfl sz50 rfl rfl ?_ | refine lw_storeRow hs 6 rfl rfl rfl sz50 rfl rfl ?_ | refine lw_storeRow hs 7 rfl rfl rfl sz50 rfl rfl ?_ | refine lw_storeRow hs 8 rfl rfl rfl sz50 rfl rfl ?_ | refine lw_storeRow hs 9 rfl rfl rfl sz50 rfl rfl ?_ | refine lw_storeRow hs 10 rfl rfl rfl sz50 rfl rfl ?_ | refine lw_storeRow hs 11 rfl rfl rfl sz50 rfl rfl ?_ | refine lw_storeRow hs 12 rfl rfl rfl sz50 rfl rfl ?_ | refine lw_storeRow hs 13 rfl rfl rfl sz50 rfl rfl ?_
      clear hs
      intro w hs
      try simp only [List.set_cons_succ, List.set_cons_zero] at hs
      refine lw_nil ?_
      refine cw_seq ?_
      refine cw_seq ?_
      refine cw_region ?_
      first | refine lw_val rfl (run_assign (v := .int .i64 _) rfl) ?_
      refine lw_nil ?_
      refine cw_block ?_
      refine cw_loop (X := Nat × Dk × Option S4) [4, 8, 10, 11, 12, 13, 54, 55, 56, 57, 58, 59, 60, 61, 62, 63, 64, 65, 66, 67, 68, 69, 70, 71, 72, 73, 74, 75, 76, 77, 78, 79, 80, 81, 82, 83, 84, 85, 86, 87, 88, 89, 90, 91, 92, 93, 94, 95, 96, 97, 98, 99, 100, 101, 102, 103, 104, 105, 106, 107] (fun x => [(8, .bool x.2.2.isSome), (10, .int .i64 (x.1 : Nat))]) (fun x w => x.1 ≤ l.length ∧ x.2.1.calls ≤ 2 + 6 * x.1 ∧ AnI b x.2.2 x.2.1 ∧ Mem g w (cells b9 (s4V (x.2.2.getD s40)) 50 :: DiskC p x.2.1 :: [])) (fun x => l.length - x.1) ((0, an2 b, none)) ?_ ?_ ?_
      · exact ⟨rfl, rfl, trivial⟩
      · exact ⟨Nat.zero_le _, Nat.le_refl _, han0, hs⟩
      clear hs
      rintro x ξ w hI
      obtain ⟨i, d, cur⟩ := x
      obtain ⟨hi, hcl, hAn, hs⟩ := hI
      simp only at hi hcl hAn hs
      show cw _ _ _ _ _ _ (updL (mix _ ξ _) [(8, .bool cur.isSome), (10, .int .i64 (i : Nat))]) w
      refine cw_seq ?_
      refine cw_seq ?_
      refine cw_region ?_
      first | refine lw_val rfl (run_move (v := .int .i64 _) rfl) ?_
      first | refine lw_val rfl (run_move (v := .slice _ _ _) rfl) ?_
      refine lw_val rfl (run_lenS Tryd.underlying63 rfl) ?_
      refine lw_val rfl (run_lss rfl rfl) ?_
      refine lw_nil ?_
      refine cw_if rfl ?_ ?_
      · intro h57
        have g57 := of_decide_eq_true h57
        obtain ⟨z, hz⟩ : ∃ z, l[i]? = some z := ⟨_, List.getElem?_eq_getElem (by omega)⟩
        obtain ⟨b0, o0, rfl, _⟩ := (h0.rd _).cells' hs (by rw [intsL_len]; omega)
        obtain ⟨q1, hq1, hb1⟩ := and_mask z 65535 (by decide)
        obtain ⟨q2, hq2, hb2⟩ := and_mask z 7 (by decide)
        have hii : i * i ≤ 20 * 20 := Nat.mul_le_mul (by omega) (by omega)
        obtain ⟨ii, hiiE⟩ : ∃ ii, i * i = ii := ⟨_, rfl⟩
        rw [hiiE] at hii
        have hiiZ : ((i : Nat) : Int) * ((i : Nat) : Int) = ((ii : Nat) : Int) := by rw [← hiiE]; push_cast; rfl
        obtain ⟨eg, hg, hgc, hga⟩ := hAn.gone
        have hall : (s4L ((q1 : Int), (i : Int), (q2 : Int), (ii : Int))).all inR = true := by simp [s4L, inR]; omega
        obtain ⟨ew, hw, hwc, hwa⟩ := hAn.write hall
        refine cw_skip ?_
        refine cw_seq ?_
        refine cw_block ?_
        refine cw_seq ?_
        refine cw_seq ?_
        refine cw_region ?_
        first | refine lw_val rfl (run_move (v := .slice _ _ _) rfl) ?_
        first | refine lw_val rfl (run_move (v := .int .i64 _) rfl) ?_
        refine lw_val rfl (run_indexAddr Tryd.underlying63 sz3 rfl rfl rfl (by omega) rfl) ?_
        refine lw_val rfl (run_load Tryd.underlying3 rfl rfl ((h0.rd _).cellAt hs (intsL_at hz))) ?_
        refine lw_val rfl (run_rem rfl rfl (by decide)) ?_
        refine lw_val rfl (run_eqi rfl rfl) ?_
        refine lw_nil ?_
        refine cw_if rfl ?_ ?_
        · intro h65
          have g65 := of_decide_eq_true h65
          refine cw_seq ?_
          refine cw_seq ?_
          refine cw_region ?_
          first | refine lw_val rfl (run_move (v := .pointer (some _)) rfl) ?_ | refine lw_val rfl (run_move (v := .pointer none) rfl) ?_
          refine lw_call rfl en36 (jremove_sl hK (d := d) (L := cells _ _ _ :: []) (by omega) (hs.arr [1, 0] 2 (by decide)) hg) ?_
          clear hs
          rintro _ w ⟨rfl, hs⟩
          obtain ⟨hok1, _⟩ := hs.openD
          have hAn2 := hga hok1
          first | refine lw_val rfl (run_neerrn (ad := ad) rfl) ?_ | refine lw_val rfl (run_nenn rfl) ?_ | refine lw_val rfl (run_neE (ad := ad) rfl) ?_
          refine lw_nil ?_
          refine cw_iff rfl (rfl) ?_
          refine cw_skip ?_
          refine cw_seq ?_
          refine cw_region ?_
          first | refine lw_val rfl (run_assign (v := .bool _) rfl) ?_
          refine lw_nil ?_
          refine cw_region ?_
          refine lw_val rfl (run_build Tryd.underlying50 ze50 pl50 rfl) ?_
          first | refine lw_storeRow hs 0 rfl rfl rfl sz50 rfl rfl ?_ | refine lw_storeRow hs 1 rfl rfl rfl sz50 rfl rfl ?_ | refine lw_storeRow hs 2 rfl rfl rfl sz50 rfl rfl ?_ | refine lw_storeRow hs 3 rfl rfl rfl sz50 rfl rfl ?_ | refine lw_storeRow hs 4 rfl rfl rfl sz50 rfl rfl ?_ | refine lw_storeRow hs 5 rfl rfl rfl sz50 rfl rfl ?_ | refine lw_storeRow hs 6 rfl rfl rfl sz50 rfl rfl ?_ | refine lw_storeRow hs 7 rfl rfl rfl sz50 rfl rfl ?_ | refine lw_storeRow hs 8 rfl rfl rfl sz50 rfl rfl ?_ | refine lw_storeRow hs 9 rfl rfl rfl sz50 rfl rfl ?_ | refine lw_storeRow hs 10 rfl rfl rfl sz50 rfl rfl ?_ | refine lw_storeRow hs 11 rfl rfl rfl sz50 rfl rfl ?_ | refine lw_storeRow hs 12 rfl rfl rfl sz50 rfl rfl ?_ | refine lw_storeRow hs 13 rfl rfl rfl sz50 rfl rfl ?_
          clear hs
          intro w hs
          try simp only [List.set_cons_succ, List.set_cons_zero] at hs
          refine lw_nil ?_
          refine cw_seq ?_
          refine cw_region ?_
          first | refine lw_val rfl (run_move (v := .pointer (some _)) rfl) ?_ | refine lw_val rfl (run_move (v := .pointer none) rfl) ?_
          refine lw_call rfl en28 (jread_sl hE hs (j := zS) hAn2.read) ?_
          clear hs
          rintro _ w ⟨rfl, hs⟩
          first | refine lw_val rfl (run_move (v := .tuple _) rfl) ?_
          first | refine lw_val rfl (run_extract (v := .agg _) rfl rfl) ?_
          first | refine lw_val rfl (run_extract (v := .bool _) rfl rfl) ?_
          first | refine lw_val rfl (run_extract (v := errV ad _) rfl rfl) ?_ | refine lw_val rfl (run_extract (v := .nilIface) rfl rfl) ?_ | refine lw_val rfl (run_extract (v := eV ad _ _) rfl rfl) ?_ | refine lw_val rfl (run_extract (v := .iface _ (.pointer (some _))) rfl rfl) ?_
          refine lw_alloc hs rfl ze50 ?_
          clear hs
          intro b11 w hs
          try simp only [List.set_cons_succ, List.set_cons_zero] at hs
          first | refine lw_storeRow hs 0 rfl rfl rfl sz50 rfl rfl ?_ | refine lw_storeRow hs 1 rfl rfl rfl sz50 rfl rfl ?_ | refine lw_storeRow hs 2 rfl rfl rfl sz50 rfl rfl ?_ | refine lw_storeRow hs 3 rfl rfl rfl sz50 rfl rfl ?_ | refine lw_storeRow hs 4 rfl rfl rfl sz50 rfl rfl ?_ | refine lw_storeRow hs 5 rfl rfl rfl sz50 rfl rfl ?_ | refine lw_storeRow hs 6 rfl rfl rfl sz50 rfl rfl ?_ | refine lw_storeRow hs 7 rfl rfl rfl sz50 rfl rfl ?_ | refine lw_storeRow hs 8 rfl rfl rfl sz50 rfl rfl ?_ | refine lw_storeRow hs 9 rfl rfl rfl sz50 rfl rfl ?_ | refine lw_storeRow hs 10 rfl rfl rfl sz50 rfl rfl ?_ | refine lw_storeRow hs 11 rfl rfl rfl sz50 rfl rfl ?_ | refine lw_storeRow hs 12 rfl rfl rfl sz50 rfl rfl ?_ | refine lw_storeRow hs 13 rfl rfl rfl sz50 rfl rfl ?_
          clear hs
          intro w hs
          try simp only [List.set_cons_succ, List.set_cons_zero] at hs
          first | refine lw_val rfl (run_assign (v := .bool _) rfl) ?_
          first | refine lw_val rfl (run_assign (v := errV ad _) rfl) ?_ | refine lw_val rfl (run_assign (v := .nilIface) rfl) ?_ | refine lw_val rfl (run_assign (v := eV ad _ _) rfl) ?_ | refine lw_val rfl (run_assign (v := .iface _ (.pointer (some _))) rfl) ?_
          refine lw_nil ?_
          refine cw_seq ?_
          refine cw_region ?_
          first | refine lw_val rfl (run_move (v := errV ad _) rfl) ?_ | refine lw_val rfl (run_move (v := .nilIface) rfl) ?_ | refine lw_val rfl (run_move (v := eV ad _ _) rfl) ?_ | refine lw_val rfl (run_move (v := .iface _ (.pointer (some _))) rfl) ?_
          first | refine lw_val rfl (run_neerrn (ad := ad) rfl) ?_ | refine lw_val rfl (run_nenn rfl) ?_ | refine lw_val rfl (run_neE (ad := ad) rfl) ?_
          first | refine lw_val rfl (run_move (v := .bool _) rfl) ?_
          refine lw_on rfl rfl (rfl) ?_
          first | refine lw_val rfl (run_move (v := .bool _) rfl) ?_
          refine lw_on rfl rfl (rfl) ?_
          first | refine lw_val rfl (run_move (v := .bool _) rfl) ?_
          refine lw_on rfl rfl (rfl) ?_
          refine lw_val rfl (run_neb Tryd.underlying4 rfl rfl) ?_
          first | refine lw_val rfl (run_pickF (v := .bool _) rfl (rfl) rfl) ?_
          first | refine lw_val rfl (run_move (v := .bool _) rfl) ?_
          refine lw_on rfl rfl (rfl) ?_
          first | refine lw_val rfl (run_loadRow hs 0 rfl Tryd.underlying50 sz50 rfl) ?_ | refine lw_val rfl (run_loadRow hs 1 rfl Tryd.underlying50 sz50 rfl) ?_ | refine lw_val rfl (run_loadRow hs 2 rfl Tryd.underlying50 sz50 rfl) ?_ | refine lw_val rfl (run_loadRow hs 3 rfl Tryd.underlying50 sz50 rfl) ?_ | refine lw_val rfl (run_loadRow hs 4 rfl Tryd.underlying50 sz50 rfl) ?_ | refine lw_val rfl (run_loadRow hs 5 rfl Tryd.underlying50 sz50 rfl) ?_ | refine lw_val rfl (run_loadRow hs 6 rfl Tryd.underlying50 sz50 rfl) ?_ | refine lw_val rfl (run_loadRow hs 7 rfl Tryd.underlying50 sz50 rfl) ?_ | refine lw_val rfl (run_loadRow hs 8 rfl Tryd.underlying50 sz50 rfl) ?_ | refine lw_val rfl (run_loadRow hs 9 rfl Tryd.underlying50 sz50 rfl) ?_ | refine lw_val rfl (run_loadRow hs 10 rfl Tryd.underlying50 sz50 rfl) ?_ | refine lw_val rfl (run_loadRow hs 11 rfl Tryd.underlying50 sz50 rfl) ?_ | refine lw_val rfl (run_loadRow hs 12 rfl Tryd.underlying50 sz50 rfl) ?_ | refine lw_val rfl (run_loadRow hs 13 rfl Tryd.underlying50 sz50 rfl) ?_
          refine lw_on rfl rfl (rfl) ?_
          first | refine lw_val rfl (run_loadRow hs 0 rfl Tryd.underlying50 sz50 rfl) ?_ | refine lw_val rfl (run_loadRow hs 1 rfl Tryd.underlying50 sz50 rfl) ?_ | refine lw_val rfl (run_loadRow hs 2 rfl Tryd.underlying50 sz50 rfl) ?_ | refine lw_val rfl (run_loadRow hs 3 rfl Tryd.underlying50 sz50 rfl) ?_ | refine lw_val rfl (run_loadRow hs 4 rfl Tryd.underlying50 sz50 rfl) ?_ | refine lw_val rfl (run_loadRow hs 5 rfl Tryd.underlying50 sz50 rfl) ?_ | refine lw_val rfl (run_loadRow hs 6 rfl Tryd.underlying50 sz50 rfl) ?_ | refine lw_val rfl (run_loadRow hs 7 rfl Tryd.underlying50 sz50 rfl) ?_ | refine lw_val rfl (run_loadRow hs 8 rfl Tryd.underlying50 sz50 rfl) ?_ | refine lw_val rfl (run_loadRow hs 9 rfl Tryd.underlying50 sz50 rfl) ?_ | refine lw_val rfl (run_loadRow hs 10 rfl Tryd.underlying50 sz50 rfl) ?_ | refine lw_val rfl (run_loadRow hs 11 rfl Tryd.underlying50 sz50 rfl) ?_ | refine lw_val rfl (run_loadRow hs 12 rfl Tryd.underlying50 sz50 rfl) ?_ | refine lw_val rfl (run_loadRow hs 13 rfl Tryd.underlying50 sz50 rfl) ?_
          refine lw_on rfl rfl (rfl) ?_
          refine lw_call rfl en35 (same20_sl hs 0 0 0 0 0 0 0 0) ?_
          clear hs
          rintro _ w ⟨rfl, hs⟩
          refine lw_on rfl rfl (rfl) ?_
          refine lw_val rfl (run_not rfl) ?_
          first | refine lw_val rfl (run_pickF (v := .bool _) rfl (rfl) rfl) ?_
          refine lw_nil ?_
          refine cw_iff rfl (not_f (decide_eq_true rfl)) ?_
          refine cw_skip ?_
          refine cw_region ?_
          first | refine lw_val rfl (run_move (v := .int .i64 _) rfl) ?_
          refine lw_val rfl (run_add64 rfl rfl rfl (inI (by omega) (by omega))) ?_
          first | refine lw_val rfl (run_assign (v := .int .i64 _) rfl) ?_
          refine lw_nil ?_
          exact ⟨(i + 1, eg, none), by simp only; omega, ⟨by simp only; omega, by simp only; omega, hAn2, hs.arr [2, 1] 3 (by decide)⟩, ⟨rfl, rfl, trivial⟩, by repeat (first | exact Out.mix _ _ _ | refine Out.updo rfl ?_ | refine Out.upd rfl ?_ | refine Out.mixIn rfl ?_)⟩
        · intro h65
          have g65 := of_decide_eq_false h65
          refine cw_seq ?_
          refine cw_drawS mixes (hs.drop 0) ?_
          intro w tr hK
          replace hs := tr _ hs
          clear tr
          first | refine aw_take 0 rfl (by kernel_rfl) (by kernel_rfl) (by kernel_rfl) rfl (fun w hs => run_move (v := .slice _ _ _) rfl) hK ?_
          first | refine aw_take 1 rfl (by kernel_rfl) (by kernel_rfl) (by kernel_rfl) rfl (fun w hs => run_move (v := .int .i64 _) rfl) hK ?_
          refine aw_take 2 rfl (by kernel_rfl) (by kernel_rfl) (by kernel_rfl) rfl (fun w hs => run_indexAddr Tryd.underlying63 sz3 rfl rfl rfl (by omega) rfl) hK ?_
          refine aw_take 3 rfl (by kernel_rfl) (by kernel_rfl) (by kernel_rfl) rfl (fun w hs => run_load Tryd.underlying3 rfl rfl ((h0.rd _).cellAt hs (intsL_at hz))) hK ?_
          refine aw_take 4 rfl (by kernel_rfl) (by kernel_rfl) (by kernel_rfl) rfl (fun w hs => run_bits (by simp) rfl rfl (v := .int .i64 (q1 : Nat)) (by rw [← hb1]; rfl)) hK ?_
          first | refine aw_take 5 rfl (by kernel_rfl) (by kernel_rfl) (by kernel_rfl) rfl (fun w hs => run_move (v := .int .i64 _) rfl) hK ?_
          first | refine aw_take 6 rfl (by kernel_rfl) (by kernel_rfl) (by kernel_rfl) rfl (fun w hs => run_move (v := .slice _ _ _) rfl) hK ?_
          first | refine aw_take 7 rfl (by kernel_rfl) (by kernel_rfl) (by kernel_rfl) rfl (fun w hs => run_move (v := .int .i64 _) rfl) hK ?_
          refine aw_take 8 rfl (by kernel_rfl) (by kernel_rfl) (by kernel_rfl) rfl (fun w hs => run_indexAddr Tryd.underlying63 sz3 rfl rfl rfl (by omega) rfl) hK ?_
          refine aw_take 9 rfl (by kernel_rfl) (by kernel_rfl) (by kernel_rfl) rfl (fun w hs => run_load Tryd.underlying3 rfl rfl ((h0.rd _).cellAt hs (intsL_at hz))) hK ?_
          refine aw_take 10 rfl (by kernel_rfl) (by kernel_rfl) (by kernel_rfl) rfl (fun w hs => run_bits (by simp) rfl rfl (v := .int .i64 (q2 : Nat)) (by rw [← hb2]; rfl)) hK ?_
          first | refine aw_take 11 rfl (by kernel_rfl) (by kernel_rfl) (by kernel_rfl) rfl (fun w hs => run_move (v := .int .i64 _) rfl) hK ?_
          first | refine aw_take 12 rfl (by kernel_rfl) (by kernel_rfl) (by kernel_rfl) rfl (fun w hs => run_move (v := .int .i64 _) rfl) hK ?_
          refine aw_take 13 rfl (by kernel_rfl) (by kernel_rfl) (by kernel_rfl) rfl (fun w hs => run_mul64 rfl rfl (c := ((ii : Nat) : Int)) hiiZ (inI (by omega) (by omega))) hK ?_
          refine aw_take 14 rfl (by kernel_rfl) (by kernel_rfl) (by kernel_rfl) rfl (fun w hs => run_buildF ([.int .i64 (q1 : Nat), .int .i64 (i : Nat), .int .i64 (q2 : Nat), .int .i64 (ii : Nat)]) Tryd.underlying50 ze50 pl50 rfl (by simp [Value.cells]) rfl rfl) hK ?_
          refine aw_ready [15] (by kernel_rfl) (by simp) ?_
          refine ⟨⟨_, rfl, ?_⟩, trivial⟩
          first | refine lw_storeRow hs 0 rfl rfl rfl sz50 rfl rfl ?_ | refine lw_storeRow hs 1 rfl rfl rfl sz50 rfl rfl ?_ | refine lw_storeRow hs 2 rfl rfl rfl sz50 rfl rfl ?_ | refine lw_storeRow hs 3 rfl rfl rfl sz50 rfl rfl ?_ | refine lw_storeRow hs 4 rfl rfl rfl sz50 rfl rfl ?_ | refine lw_storeRow hs 5 rfl rfl rfl sz50 rfl rfl ?_ | refine lw_storeRow hs 6 rfl rfl rfl sz50 rfl rfl ?_ | refine lw_storeRow hs 7 rfl rfl rfl sz50 rfl rfl ?_ | refine lw_storeRow hs 8 rfl rfl rfl sz50 rfl rfl ?_ | refine lw_storeRow hs 9 rfl rfl rfl sz50 rfl rfl ?_ | refine lw_storeRow hs 10 rfl rfl rfl sz50 rfl rfl ?_ | refine lw_storeRow hs 11 rfl rfl rfl sz50 rfl rfl ?_ | refine lw_storeRow hs 12 rfl rfl rfl sz50 rfl rfl ?_ | refine lw_storeRow hs 13 rfl rfl rfl sz50 rfl rfl ?_
          clear hs
          intro w hs
          try simp only [List.set_cons_succ, List.set_cons_zero] at hs
          clear hK
          have hK := hs.drop 0
          refine lw_nil ⟨hK, ?_⟩
          refine aw_done (by kernel_rfl) ?_
          clear hK
          refine cw_seq ?_
          refine cw_region ?_
          first | refine lw_val rfl (run_assign (v := .bool _) rfl) ?_
          refine lw_nil ?_
          refine cw_seq ?_
          refine cw_region ?_
          first | refine lw_val rfl (run_move (v := .pointer (some _)) rfl) ?_ | refine lw_val rfl (run_move (v := .pointer none) rfl) ?_
          first | refine lw_val rfl (run_loadRow hs 0 rfl Tryd.underlying50 sz50 rfl) ?_ | refine lw_val rfl (run_loadRow hs 1 rfl Tryd.underlying50 sz50 rfl) ?_ | refine lw_val rfl (run_loadRow hs 2 rfl Tryd.underlying50 sz50 rfl) ?_ | refine lw_val rfl (run_loadRow hs 3 rfl Tryd.underlying50 sz50 rfl) ?_ | refine lw_val rfl (run_loadRow hs 4 rfl Tryd.underlying50 sz50 rfl) ?_ | refine lw_val rfl (run_loadRow hs 5 rfl Tryd.underlying50 sz50 rfl) ?_ | refine lw_val rfl (run_loadRow hs 6 rfl Tryd.underlying50 sz50 rfl) ?_ | refine lw_val rfl (run_loadRow hs 7 rfl Tryd.underlying50 sz50 rfl) ?_ | refine lw_val rfl (run_loadRow hs 8 rfl Tryd.underlying50 sz50 rfl) ?_ | refine lw_val rfl (run_loadRow hs 9 rfl Tryd.underlying50 sz50 rfl) ?_ | refine lw_val rfl (run_loadRow hs 10 rfl Tryd.underlying50 sz50 rfl) ?_ | refine lw_val rfl (run_loadRow hs 11 rfl Tryd.underlying50 sz50 rfl) ?_ | refine lw_val rfl (run_loadRow hs 12 rfl Tryd.underlying50 sz50 rfl) ?_ | refine lw_val rfl (run_loadRow hs 13 rfl Tryd.underlying50 sz50 rfl) ?_
          refine lw_call rfl en32 (jwrite_sl hE (d := d) (L := cells _ _ _ :: []) (by omega) (hs.arr [1, 0] 2 (by decide)) (x0 := (q1 : Nat)) (x1 := (i : Nat)) (x2 := (q2 : Nat)) (x3 := (ii : Nat)) (inI (by omega) (by omega)) (inI (by omega) (by omega)) (inI (by omega) (by omega)) (inI (by omega) (by omega)) hw) ?_
          clear hs
          rintro _ w ⟨rfl, hs⟩
          obtain ⟨hok1, _⟩ := hs.openD
          have hAn2 := hwa hok1
          first | refine lw_val rfl (run_neerrn (ad := ad) rfl) ?_ | refine lw_val rfl (run_nenn rfl) ?_ | refine lw_val rfl (run_neE (ad := ad) rfl) ?_
          refine lw_nil ?_
          refine cw_iff rfl (rfl) ?_
          refine cw_skip ?_
          refine cw_seq ?_
          refine cw_region ?_
          first | refine lw_val rfl (run_move (v := .pointer (some _)) rfl) ?_ | refine lw_val rfl (run_move (v := .pointer none) rfl) ?_
          refine lw_call rfl en28 (jread_sl hE hs (j := (0, true, (q1 : Nat), (i : Nat), (q2 : Nat), (ii : Nat))) hAn2.read) ?_
          clear hs
          rintro _ w ⟨rfl, hs⟩
          first | refine lw_val rfl (run_move (v := .tuple _) rfl) ?_
          first | refine lw_val rfl (run_extract (v := .agg _) rfl rfl) ?_
          first | refine lw_val rfl (run_extract (v := .bool _) rfl rfl) ?_
          first | refine lw_val rfl (run_extract (v := errV ad _) rfl rfl) ?_ | refine lw_val rfl (run_extract (v := .nilIface) rfl rfl) ?_ | refine lw_val rfl (run_extract (v := eV ad _ _) rfl rfl) ?_ | refine lw_val rfl (run_extract (v := .iface _ (.pointer (some _))) rfl rfl) ?_
          refine lw_alloc hs rfl ze50 ?_
          clear hs
          intro b11 w hs
          try simp only [List.set_cons_succ, List.set_cons_zero] at hs
          first | refine lw_storeRow hs 0 rfl rfl rfl sz50 rfl rfl ?_ | refine lw_storeRow hs 1 rfl rfl rfl sz50 rfl rfl ?_ | refine lw_storeRow hs 2 rfl rfl rfl sz50 rfl rfl ?_ | refine lw_storeRow hs 3 rfl rfl rfl sz50 rfl rfl ?_ | refine lw_storeRow hs 4 rfl rfl rfl sz50 rfl rfl ?_ | refine lw_storeRow hs 5 rfl rfl rfl sz50 rfl rfl ?_ | refine lw_storeRow hs 6 rfl rfl rfl sz50 rfl rfl ?_ | refine lw_storeRow hs 7 rfl rfl rfl sz50 rfl rfl ?_ | refine lw_storeRow hs 8 rfl rfl rfl sz50 rfl rfl ?_ | refine lw_storeRow hs 9 rfl rfl rfl sz50 rfl rfl ?_ | refine lw_storeRow hs 10 rfl rfl rfl sz50 rfl rfl ?_ | refine lw_storeRow hs 11 rfl rfl rfl sz50 rfl rfl ?_ | refine lw_storeRow hs 12 rfl rfl rfl sz50 rfl rfl ?_ | refine lw_storeRow hs 13 rfl rfl rfl sz50 rfl rfl ?_
          clear hs
          intro w hs
          try simp only [List.set_cons_succ, List.set_cons_zero] at hs
          first | refine lw_val rfl (run_assign (v := .bool _) rfl) ?_
          first | refine lw_val rfl (run_assign (v := errV ad _) rfl) ?_ | refine lw_val rfl (run_assign (v := .nilIface) rfl) ?_ | refine lw_val rfl (run_assign (v := eV ad _ _) rfl) ?_ | refine lw_val rfl (run_assign (v := .iface _ (.pointer (some _))) rfl) ?_
          refine lw_nil ?_
          refine cw_seq ?_
          refine cw_region ?_
          first | refine lw_val rfl (run_move (v := errV ad _) rfl) ?_ | refine lw_val rfl (run_move (v := .nilIface) rfl) ?_ | refine lw_val rfl (run_move (v := eV ad _ _) rfl) ?_ | refine lw_val rfl (run_move (v := .iface _ (.pointer (some _))) rfl) ?_
          first | refine lw_val rfl (run_neerrn (ad := ad) rfl) ?_ | refine lw_val rfl (run_nenn rfl) ?_ | refine lw_val rfl (run_neE (ad := ad) rfl) ?_
          first | refine lw_val rfl (run_move (v := .bool _) rfl) ?_
          refine lw_on rfl rfl (rfl) ?_
          first | refine lw_val rfl (run_move (v := .bool _) rfl) ?_
          refine lw_on rfl rfl (rfl) ?_
          first | refine lw_val rfl (run_move (v := .bool _) rfl) ?_
          refine lw_on rfl rfl (rfl) ?_
          refine lw_val rfl (run_neb Tryd.underlying4 rfl rfl) ?_
          first | refine lw_val rfl (run_pickF (v := .bool _) rfl (rfl) rfl) ?_
          first | refine lw_val rfl (run_move (v := .bool _) rfl) ?_
          refine lw_on rfl rfl (rfl) ?_
          first | refine lw_val rfl (run_loadRow hs 0 rfl Tryd.underlying50 sz50 rfl) ?_ | refine lw_val rfl (run_loadRow hs 1 rfl Tryd.underlying50 sz50 rfl) ?_ | refine lw_val rfl (run_loadRow hs 2 rfl Tryd.underlying50 sz50 rfl) ?_ | refine lw_val rfl (run_loadRow hs 3 rfl Tryd.underlying50 sz50 rfl) ?_ | refine lw_val rfl (run_loadRow hs 4 rfl Tryd.underlying50 sz50 rfl) ?_ | refine lw_val rfl (run_loadRow hs 5 rfl Tryd.underlying50 sz50 rfl) ?_ | refine lw_val rfl (run_loadRow hs 6 rfl Tryd.underlying50 sz50 rfl) ?_ | refine lw_val rfl (run_loadRow hs 7 rfl Tryd.underlying50 sz50 rfl) ?_ | refine lw_val rfl (run_loadRow hs 8 rfl Tryd.underlying50 sz50 rfl) ?_ | refine lw_val rfl (run_loadRow hs 9 rfl Tryd.underlying50 sz50 rfl) ?_ | refine lw_val rfl (run_loadRow hs 10 rfl Tryd.underlying50 sz50 rfl) ?_ | refine lw_val rfl (run_loadRow hs 11 rfl Tryd.underlying50 sz50 rfl) ?_ | refine lw_val rfl (run_loadRow hs 12 rfl Tryd.underlying50 sz50 rfl) ?_ | refine lw_val rfl (run_loadRow hs 13 rfl Tryd.underlying50 sz50 rfl) ?_
          refine lw_on rfl rfl (rfl) ?_
          first | refine lw_val rfl (run_loadRow hs 0 rfl Tryd.underlying50 sz50 rfl) ?_ | refine lw_val rfl (run_loadRow hs 1 rfl Tryd.underlying50 sz50 rfl) ?_ | refine lw_val rfl (run_loadRow hs 2 rfl Tryd.underlying50 sz50 rfl) ?_ | refine lw_val rfl (run_loadRow hs 3 rfl Tryd.underlying50 sz50 rfl) ?_ | refine lw_val rfl (run_loadRow hs 4 rfl Tryd.underlying50 sz50 rfl) ?_ | refine lw_val rfl (run_loadRow hs 5 rfl Tryd.underlying50 sz50 rfl) ?_ | refine lw_val rfl (run_loadRow hs 6 rfl Tryd.underlying50 sz50 rfl) ?_ | refine lw_val rfl (run_loadRow hs 7 rfl Tryd.underlying50 sz50 rfl) ?_ | refine lw_val rfl (run_loadRow hs 8 rfl Tryd.underlying50 sz50 rfl) ?_ | refine lw_val rfl (run_loadRow hs 9 rfl Tryd.underlying50 sz50 rfl) ?_ | refine lw_val rfl (run_loadRow hs 10 rfl Tryd.underlying50 sz50 rfl) ?_ | refine lw_val rfl (run_loadRow hs 11 rfl Tryd.underlying50 sz50 rfl) ?_ | refine lw_val rfl (run_loadRow hs 12 rfl Tryd.underlying50 sz50 rfl) ?_ | refine lw_val rfl (run_loadRow hs 13 rfl Tryd.underlying50 sz50 rfl) ?_
          refine lw_on rfl rfl (rfl) ?_
          refine lw_call rfl en35 (same20_sl hs (q1 : Nat) (i : Nat) (q2 : Nat) (ii : Nat) (q1 : Nat) (i : Nat) (q2 : Nat) (ii : Nat)) ?_
          clear hs
          rintro _ w ⟨rfl, hs⟩
          refine lw_on rfl rfl (rfl) ?_
          refine lw_val rfl (run_not rfl) ?_
          first | refine lw_val rfl (run_pickF (v := .bool _) rfl (rfl) rfl) ?_
          refine lw_nil ?_
          refine cw_iff rfl (not_f (decide_eq_true rfl)) ?_
          refine cw_skip ?_
          refine cw_region ?_
          first | refine lw_val rfl (run_move (v := .int .i64 _) rfl) ?_
          refine lw_val rfl (run_add64 rfl rfl rfl (inI (by omega) (by omega))) ?_
          first | refine lw_val rfl (run_assign (v := .int .i64 _) rfl) ?_
          refine lw_nil ?_
          exact ⟨(i + 1, ew, some ((q1 : Int), (i : Int), (q2 : Int), (ii : Int))), by simp only; omega, ⟨by simp only; omega, by simp only; omega, hAn2, hs.arr [2, 1] 3 (by decide)⟩, ⟨rfl, rfl, trivial⟩, by repeat (first | exact Out.mix _ _ _ | refine Out.updo rfl ?_ | refine Out.upd rfl ?_ | refine Out.mixIn rfl ?_)⟩
      · intro h57
        have g57 := of_decide_eq_false h57
        have hrd : d.readR nOt 0 (b.length : Int) = (0, b) := (Dk.readR_at (i := 1) (F := ⟨1, b, 0⟩) (o := 0) (m := b.length) hAn.up.up hAn.oth hAn.file (by show 0 + b.length ≤ b.length; omega)).trans (by simp)
        refine cw_exit rfl ?_
        refine cw_seq ?_
        refine cw_region ?_
        first | refine lw_val rfl (run_move (v := .pointer (some _)) rfl) ?_ | refine lw_val rfl (run_move (v := .pointer none) rfl) ?_
        first | refine lw_val rfl (run_move (v := .slice _ _ _) rfl) ?_
        refine lw_val rfl (run_lenS Tryd.underlying23 rfl) ?_
        refine lw_call rfl en37 (read_sl (d := d) (L := cells _ _ _ :: []) hK (hs.arr [1, 0] 2 (by decide)) nOt (off := 0) (m := b.length) (inI (by decide) (by decide)) (inI (by omega) (by omega)) hrd) ?_
        clear hs
        rintro _ w ⟨ar, cr, rfl, hs⟩
        first | refine lw_val rfl (run_move (v := .tuple _) rfl) ?_
        first | refine lw_val rfl (run_extract (v := .slice _ _ _) rfl rfl) ?_
        first | refine lw_val rfl (run_extract (v := errV ad _) rfl rfl) ?_ | refine lw_val rfl (run_extract (v := .nilIface) rfl rfl) ?_ | refine lw_val rfl (run_extract (v := eV ad _ _) rfl rfl) ?_ | refine lw_val rfl (run_extract (v := .iface _ (.pointer (some _))) rfl rfl) ?_
        first | refine lw_val rfl (run_assign (v := .slice _ _ _) rfl) ?_
        first | refine lw_val rfl (run_assign (v := errV ad _) rfl) ?_ | refine lw_val rfl (run_assign (v := .nilIface) rfl) ?_ | refine lw_val rfl (run_assign (v := eV ad _ _) rfl) ?_ | refine lw_val rfl (run_assign (v := .iface _ (.pointer (some _))) rfl) ?_
        refine lw_nil ?_
        refine cw_seq ?_
        refine cw_region ?_
        first | refine lw_val rfl (run_move (v := errV ad _) rfl) ?_ | refine lw_val rfl (run_move (v := .nilIface) rfl) ?_ | refine lw_val rfl (run_move (v := eV ad _ _) rfl) ?_ | refine lw_val rfl (run_move (v := .iface _ (.pointer (some _))) rfl) ?_
        first | refine lw_val rfl (run_eqerrn (ad := ad) rfl) ?_ | refine lw_val rfl (run_eqnn rfl) ?_ | refine lw_val rfl (run_eqE (ad := ad) rfl) ?_
        first | refine lw_val rfl (run_move (v := .bool _) rfl) ?_
        refine lw_on rfl rfl (rfl) ?_
        first | refine lw_val rfl (run_move (v := .slice _ _ _) rfl) ?_
        refine lw_on rfl rfl (rfl) ?_
        first | refine lw_val rfl (run_move (v := .slice _ _ _) rfl) ?_
        refine lw_on rfl rfl (rfl) ?_
        refine lw_call rfl en22 (sameB_sl hs (la := b) (lb := b) (hs.rdOwn 0 rfl) (h1.rd _) rfl rfl (by omega)) ?_
        clear hs
        rintro _ w ⟨rfl, hs⟩
        first | refine lw_val rfl (run_pickT (v := .bool _) rfl (rfl) rfl) ?_
        first | refine lw_val rfl (run_assign (v := .bool _) rfl) ?_
        refine lw_nil ?_
        refine cw_ret ?_
        refine res1 (v := .bool _) rfl rfl ?_
        exact ⟨_, rfl, ret_b (decide_eq_true rfl), hs.nil⟩
end Go.Proofs.YtmnfehbnjgmgjaaDoor
