/- The law MlogEvery: however often a snapshot is made, what is told is the same. -/
import Derived.Test.YtdkgdjnbpjjfmaaGreatDoorQ7
namespace Go.Proofs.YtdkgdjnbpjjfmaaGreatDoor
set_option linter.all false
open Go.RowKit
attribute [local irreducible] errV eV
variable {g w : World} {L M : List HP} {ad : Nat → Addr} {p d : Nat} {dk dk2 : Dk} {f f2 : ByteArray → Option (List UInt8)} {V : Vw} {ev q c n c2 m K long : Nat}

/-- Two logs that have the same entries; one of them makes snapshots. -/
structure EvI (ev : Nat) (f f2 : ByteArray → Option (List UInt8)) (dk dk2 : Dk) (q c n c2 m : Nat) (V : Vw) (K : Nat) : Prop where
  x : LgK f dk q c n V K (100 * K + 4)
  y : LgK f2 dk2 q c2 m V K (100 * K + 4)
  hc : c = q % ev
  hn : n ≤ 167 * c
  hm : n ≤ m
  hc2 : c2 = q
theorem mod_next {q ev : Nat} (h1 : 1 ≤ ev) : (q % ev + 1 < ev → (q + 1) % ev = q % ev + 1) ∧ (ev ≤ q % ev + 1 → (q + 1) % ev = 0) := by
  have h2 := Nat.mod_lt q (show 0 < ev by omega)
  have h3 := Nat.div_add_mod q ev
  constructor
  · intro h
    have : q + 1 = q % ev + 1 + ev * (q / ev) := by omega
    rw [this, Nat.add_mul_mod_self_left, Nat.mod_eq_of_lt h]
  · intro h
    have : q + 1 = ev * (q / ev + 1) := by rw [Nat.mul_add, Nat.mul_one]; omega
    rw [this, Nat.mul_mod_right]
theorem EvI.step (h : EvI ev f f2 dk dk2 q c n c2 m V K) (hev : 1 ≤ ev) (hK : K ≤ 30) {z : Int} {f' f2' : ByteArray → Option (List UInt8)} {dk' dk2' : Dk} {q' c' n' q2 c2' m' : Nat} (h1 : AppU f dk ev V q c n (enz z).1 (enz z).2 f' dk' q' c' n') (h2 : AppU f2 dk2 4000 V q c2 m (enz z).1 (enz z).2 f2' dk2' q2 c2' m') :
    q2 = q' ∧ EvI ev f' f2' dk' dk2' q' c' n' c2' m' (V.apply (enz z).1 (enz z).2).2 (K + 1) := by
  have hx := (h.x.app h1).mono (K2 := K + 1) (B2 := 100 * (K + 1) + 4) (Nat.le_refl _) (by omega)
  have hy := (h.y.app h2).mono (K2 := K + 1) (B2 := 100 * (K + 1) + 4) (Nat.le_refl _) (by omega)
  have hq := h.x.q
  have hc := h.hc; have hn := h.hn; have hm := h.hm; have hc2 := h.hc2
  have hfl := enz_len z (q + 1)
  have hmn := mod_next (q := q) hev
  rcases h1.2.2.2.2.2 with ⟨ha, rfl, rfl, rfl, _⟩ | ⟨ha, rfl, hcs⟩
  · rcases h2.2.2.2.2.2 with ⟨_, rfl, rfl, rfl, _⟩ | ⟨hb, _⟩
    · exact ⟨rfl, hx, hy, hc, hn, hm, hc2⟩
    · rw [hb] at ha; exact absurd rfl ha
  · rcases h2.2.2.2.2.2 with ⟨hb, _⟩ | ⟨_, rfl, hds⟩
    · rw [ha] at hb; exact absurd rfl hb
    · rcases hds with ⟨_, rfl, rfl⟩ | ⟨hd, _⟩
      · rcases hcs with ⟨e1, rfl, rfl⟩ | ⟨e1, rfl, rfl⟩
        · exact ⟨rfl, hx, hy, by rw [hmn.1 (by omega)]; omega, by show n + (frame (q + 1) (enz z)).length ≤ _; omega, by omega, by omega⟩
        · exact ⟨rfl, hx, hy, by rw [hmn.2 (by omega)], by omega, by omega, by omega⟩
      · omega
theorem EvI.zero (h : EvI ev f f2 dk dk2 q c n c2 m V K) (h0 : q % ev = 0) : n = 0 := by have := h.hc; have := h.hn; omega
theorem EvI.small (h : EvI ev f f2 dk dk2 q c n c2 m V K) (hev : 1 ≤ ev) : n ≤ 167 * (ev - 1) := by
  have := h.hc; have := h.hn; have := Nat.mod_lt q (show 0 < ev by omega)
  have : 167 * c ≤ 167 * (ev - 1) := Nat.mul_le_mul_left _ (by omega)
  omega
attribute [local irreducible] enz Vw.apply
set_option maxHeartbeats 1000000 in
set_option maxRecDepth 10000 in
theorem mlogEvery_sl (hA : ErrA ad g) (hs : Mem g w []) {a0 : Option Addr} {n0 c0 : Nat} {l : List Int} (h0 : Came g (.slice a0 n0 c0) (intsL l)) (e0 : n0 = l.length) (every : Int) : Calls Tryz.prog 5 #[.slice a0 n0 c0, .int .i64 every] w (Ret fun v w' => v = .bool true ∧ Mem g w' []) := by
  subst e0
  have hM : ErrM ad g := Errs.sub hA (fun c hc => by simp only [mlogCodes, allCodes, List.mem_cons, List.not_mem_nil, or_false] at *; omega)
  refine calls_cw Tryz.func5 rfl rfl ?_
  skip
  refine cw_seq (cw_region ?_)
  refine lw_val rfl (run_assign (v := .bool _) rfl) ?_
  refine lw_nil (cw_seq (cw_region ?_))
  refine lw_call rfl en8 (first17_sl hM hs) ?_
  clear hs
  rintro _ w ⟨rfl, hs⟩
  refine lw_val rfl (run_assign (v := .bool _) rfl) ?_
  refine lw_nil ?_
  refine cw_seq ?_
  refine cw_seq (cw_region ?_)
  refine lw_val rfl (run_move (v := .bool _) rfl) ?_
  refine lw_val rfl (run_not rfl) ?_
  refine lw_nil ?_
  refine cw_iff rfl (not_f (rfl)) ?_
  refine cw_skip ?_
  refine cw_seq (cw_region ?_)
  refine lw_val rfl (run_move (v := .int .i64 _) rfl) ?_
  refine lw_call rfl en17 (numberL_sl hs every 8 (by decide)) ?_
  clear hs
  rintro _ w ⟨rfl, hr8, hs⟩
  obtain ⟨ev, hev⟩ : ∃ ev, ev = (every % ((8 : Nat) : Int)).toNat + 1 := ⟨_, rfl⟩
  have hev8 : 1 ≤ ev ∧ ev ≤ 8 := by omega
  refine lw_val rfl (run_add64 rfl rfl (c := ((ev : Nat) : Int)) (by omega) (inI (by omega) (by omega))) ?_
  refine lw_val rfl (run_assign (v := .int .i64 _) rfl) ?_
  refine lw_nil ?_
  refine cw_seq ?_
  refine cw_seq (cw_region ?_)
  refine lw_val rfl (run_move (v := .slice _ _ _) rfl) ?_
  refine lw_val rfl (run_lenS Tryz.underlying22 rfl) ?_
  refine lw_val rfl (run_gtr rfl rfl) ?_
  refine lw_val rfl (run_move (v := .bool _) rfl) ?_
  refine lw_split (t := _) (d := 31) rfl ?_ ?_
  ·
   intro h30
   have g30 := of_decide_eq_true h30
   refine lw_off rfl rfl rfl h30 ?_
   refine lw_off rfl rfl rfl h30 ?_
   refine lw_val rfl (run_pickT (v := .bool _) rfl h30 rfl) ?_
   refine lw_nil ?_
   refine cw_ift rfl rfl ?_
   refine cw_seq (cw_region ?_)
   refine lw_val rfl (run_move (v := .bool _) rfl) ?_
   refine lw_val rfl (run_assign (v := .bool _) rfl) ?_
   refine lw_nil ?_
   refine cw_ret ?_
   refine res1 (v := .bool _) rfl rfl ?_
   exact ⟨_, rfl, rfl, hs⟩
  ·
   intro h30
   have g30 := of_decide_eq_false h30
   refine lw_on rfl rfl h30 ?_
   refine lw_val rfl (run_move (v := .bool _) rfl) ?_
   refine lw_on rfl rfl h30 ?_
   refine lw_val rfl (run_not rfl) ?_
   refine lw_val rfl (run_pickF (v := .bool _) rfl h30 rfl) ?_
   refine lw_nil ?_
   refine cw_iff rfl (not_f (rfl)) ?_
   refine cw_skip ?_
   refine cw_seq (cw_region ?_)
   refine lw_call rfl en9 (newd_sl hs (r := 1048576) (by decide) (by decide)) ?_
   clear hs
   rintro _ w ⟨d1, rfl, hs⟩
   refine lw_val rfl (run_move (v := .tuple _) rfl) ?_
   refine lw_val rfl (run_extract (v := .pointer (some _)) rfl rfl) ?_
   refine lw_val rfl (run_extract (v := .nilIface) rfl rfl) ?_
   refine lw_val rfl (run_assign (v := .pointer (some _)) rfl) ?_
   refine lw_val rfl (run_assign (v := .nilIface) rfl) ?_
   refine lw_nil (cw_seq (cw_region ?_))
   refine lw_call rfl en9 (newd_sl hs (r := 1048576) (by decide) (by decide)) ?_
   clear hs
   rintro _ w ⟨d2, rfl, hs⟩
   refine lw_val rfl (run_move (v := .tuple _) rfl) ?_
   refine lw_val rfl (run_extract (v := .pointer (some _)) rfl rfl) ?_
   refine lw_val rfl (run_extract (v := .nilIface) rfl rfl) ?_
   refine lw_val rfl (run_assign (v := .pointer (some _)) rfl) ?_
   refine lw_val rfl (run_assign (v := .nilIface) rfl) ?_
   refine lw_nil ?_
   refine cw_seq ?_
   refine cw_seq (cw_region ?_)
   refine lw_val rfl (run_move (v := .pointer (some _)) rfl) ?_
   refine lw_val rfl (run_eqpn Tryz.underlying25 rfl rfl) ?_
   refine lw_val rfl (run_move (v := .bool _) rfl) ?_
   refine lw_on rfl rfl (rfl) ?_
   refine lw_val rfl (run_move (v := .pointer (some _)) rfl) ?_
   refine lw_on rfl rfl (rfl) ?_
   refine lw_val rfl (run_eqpn Tryz.underlying25 rfl rfl) ?_
   refine lw_val rfl (run_pickF (v := .bool _) rfl (rfl) rfl) ?_
   refine lw_val rfl (run_move (v := .bool _) rfl) ?_
   refine lw_on rfl rfl (rfl) ?_
   refine lw_val rfl (run_move (v := .nilIface) rfl) ?_
   refine lw_on rfl rfl (rfl) ?_
   refine lw_val rfl (run_nenn rfl) ?_
   refine lw_val rfl (run_pickF (v := .bool _) rfl (rfl) rfl) ?_
   refine lw_val rfl (run_move (v := .bool _) rfl) ?_
   refine lw_on rfl rfl (rfl) ?_
   refine lw_val rfl (run_move (v := .nilIface) rfl) ?_
   refine lw_on rfl rfl (rfl) ?_
   refine lw_val rfl (run_nenn rfl) ?_
   refine lw_val rfl (run_pickF (v := .bool _) rfl (rfl) rfl) ?_
   refine lw_nil ?_
   refine cw_iff rfl (rfl) ?_
   refine cw_skip ?_
   refine cw_seq (cw_region ?_)
   refine lw_val rfl (run_move (v := .pointer (some _)) rfl) ?_
   refine lw_val rfl (run_move (v := .int .i64 _) rfl) ?_
   refine lw_call rfl en10 (open0_sl hM (rm := 1048576) (ev := ev) (by decide) (hs.arr [1, 0] 2 (by decide)) (by omega)) ?_
   clear hs
   rintro _ w ⟨p1, dk1, rfl, k1, k2, k3, k4, hs⟩
   refine lw_val rfl (run_move (v := .tuple _) rfl) ?_
   refine lw_val rfl (run_extract (v := .pointer (some _)) rfl rfl) ?_
   refine lw_val rfl (run_extract (v := .nilIface) rfl rfl) ?_
   refine lw_val rfl (run_assign (v := .pointer (some _)) rfl) ?_
   refine lw_val rfl (run_assign (v := .nilIface) rfl) ?_
   refine lw_nil (cw_seq (cw_region ?_))
   refine lw_val rfl (run_move (v := .pointer (some _)) rfl) ?_
   refine lw_call rfl en10 (open0_sl hM (rm := 1048576) (ev := 4000) (by decide) (hs.arr [2, 0, 1] 3 (by decide)) (by decide)) ?_
   clear hs
   rintro _ w ⟨p2, dk2, rfl, j1, j2, j3, j4, hs⟩
   refine lw_val rfl (run_move (v := .tuple _) rfl) ?_
   refine lw_val rfl (run_extract (v := .pointer (some _)) rfl rfl) ?_
   refine lw_val rfl (run_extract (v := .nilIface) rfl rfl) ?_
   refine lw_val rfl (run_assign (v := .pointer (some _)) rfl) ?_
   refine lw_val rfl (run_assign (v := .nilIface) rfl) ?_
   refine lw_nil ?_
   refine cw_seq ?_
   refine cw_seq (cw_region ?_)
   refine lw_val rfl (run_move (v := .pointer (some _)) rfl) ?_
   refine lw_val rfl (run_eqpn Tryz.underlying30 rfl rfl) ?_
   refine lw_val rfl (run_move (v := .bool _) rfl) ?_
   refine lw_on rfl rfl (rfl) ?_
   refine lw_val rfl (run_move (v := .pointer (some _)) rfl) ?_
   refine lw_on rfl rfl (rfl) ?_
   refine lw_val rfl (run_eqpn Tryz.underlying30 rfl rfl) ?_
   refine lw_val rfl (run_pickF (v := .bool _) rfl (rfl) rfl) ?_
   refine lw_val rfl (run_move (v := .bool _) rfl) ?_
   refine lw_on rfl rfl (rfl) ?_
   refine lw_val rfl (run_move (v := .nilIface) rfl) ?_
   refine lw_on rfl rfl (rfl) ?_
   refine lw_val rfl (run_nenn rfl) ?_
   refine lw_val rfl (run_pickF (v := .bool _) rfl (rfl) rfl) ?_
   refine lw_val rfl (run_move (v := .bool _) rfl) ?_
   refine lw_on rfl rfl (rfl) ?_
   refine lw_val rfl (run_move (v := .nilIface) rfl) ?_
   refine lw_on rfl rfl (rfl) ?_
   refine lw_val rfl (run_nenn rfl) ?_
   refine lw_val rfl (run_pickF (v := .bool _) rfl (rfl) rfl) ?_
   refine lw_nil ?_
   refine cw_iff rfl (rfl) ?_
   refine cw_skip ?_
   refine cw_seq (cw_region ?_)
   refine lw_val rfl (run_assign (v := .int .i64 _) rfl) ?_
   refine lw_nil ?_
   refine cw_seq ?_
   refine cw_seq (cw_region ?_)
   refine lw_val rfl (run_assign (v := .int .i64 _) rfl) ?_
   refine lw_nil ?_
   refine cw_block ?_
   refine cw_loop (X := Nat × Nat × Vw × Nat × (Nat × Nat × (ByteArray → Option (List UInt8)) × Dk) × (Nat × Nat × (ByteArray → Option (List UInt8)) × Dk)) [4, 14, 15, 16, 17, 18, 19, 20, 21, 83, 84, 85, 86, 87, 88, 89, 90, 91, 92, 93, 94, 95, 96, 97, 98, 99, 100, 101, 102, 103, 104, 105, 106, 107, 108, 109, 110, 111, 112, 113, 114, 115, 116, 117, 118, 119, 120, 121, 122, 123, 124, 125, 126, 127, 128, 129, 130, 131, 132, 133, 134, 135, 136, 137, 138, 139, 140, 141, 142, 143, 144, 145, 146, 147, 148, 149, 150, 151, 152, 153, 154, 155, 156, 157, 158, 159] (fun x => [(15, .int .i64 (x.1 : Nat)), (14, .int .i64 (x.2.1 : Nat))]) (fun x w => x.1 ≤ l.length ∧ x.2.1 ≤ 167 * (ev - 1) ∧ EvI ev x.2.2.2.2.1.2.2.1 x.2.2.2.2.2.2.2.1 x.2.2.2.2.1.2.2.2 x.2.2.2.2.2.2.2.2 x.2.2.2.1 x.2.2.2.2.1.1 x.2.2.2.2.1.2.1 x.2.2.2.2.2.1 x.2.2.2.2.2.2.1 x.2.2.1 x.1 ∧ Mem g w [LogC p1 d1 ev x.2.2.1 x.2.2.2.1 x.2.2.2.2.1.1 x.2.2.2.2.1.2.1, DiskC d1 x.2.2.2.2.1.2.2.2, LogC p2 d2 4000 x.2.2.1 x.2.2.2.1 x.2.2.2.2.2.1 x.2.2.2.2.2.2.1, DiskC d2 x.2.2.2.2.2.2.2.2]) (fun x => l.length - x.1) ((0, 0, [], 0, (0, 0, updF (fun _ => none) mtN [], dk1), (0, 0, updF (fun _ => none) mtN [], dk2))) ?_ ?_ ?_
   · exact ⟨rfl, rfl, trivial⟩
   · exact ⟨Nat.zero_le _, Nat.zero_le _, ⟨LgK.zero k1 k2 k3 k4, LgK.zero j1 j2 j3 j4, by simp, by simp, by simp, rfl⟩, hs.arr [2, 3, 0, 1] 4 (by decide)⟩
   clear hs
   rintro x ξ w hI
   obtain ⟨i, long, V, q, ⟨c, n, f, dk⟩, ⟨c2, m, f2, dq⟩⟩ := x
   obtain ⟨hi, hlg, hE, hs⟩ := hI
   simp only at hi hlg hE hs
   have hKq := hE.x.q
   have hKc := hE.x.cl
   have hKr := hE.x.r
   have hLc := hE.y.cl
   have hLr := hE.y.r
   show cw _ _ _ _ _ _ (updL (mix _ ξ _) [(15, .int .i64 (i : Nat)), (14, .int .i64 (long : Nat))]) w
   refine cw_seq ?_
   refine cw_seq (cw_region ?_)
   refine lw_val rfl (run_move (v := .int .i64 _) rfl) ?_
   refine lw_val rfl (run_move (v := .slice _ _ _) rfl) ?_
   refine lw_val rfl (run_lenS Tryz.underlying22 rfl) ?_
   refine lw_val rfl (run_lss rfl rfl) ?_
   refine lw_nil ?_
   refine cw_if rfl ?_ ?_
   ·
    intro h86
    have g86 := of_decide_eq_true h86
    obtain ⟨z, hz⟩ : ∃ z, l[i]? = some z := ⟨_, List.getElem?_eq_getElem (by omega)⟩
    obtain ⟨b1, o1, rfl, _⟩ := (h0.rd _).cells' hs (by rw [intsL_len]; omega)
    refine cw_skip ?_
    refine cw_seq ?_
    refine cw_block ?_
    refine cw_seq (cw_region ?_)
    refine lw_val rfl (run_move (v := .pointer (some _)) rfl) ?_
    refine lw_val rfl (run_move (v := .slice _ _ _) rfl) ?_
    refine lw_val rfl (run_move (v := .int .i64 _) rfl) ?_
    refine lw_val rfl (run_indexAddr Tryz.underlying22 sz3 rfl rfl rfl (by omega) rfl) ?_
    refine lw_val rfl (run_load Tryz.underlying3 rfl rfl ((h0.rd _).cellAt hs (intsL_at hz))) ?_
    refine lw_call rfl en12 (entry17_sl hs z) ?_
    clear hs
    rintro _ w ⟨s1, s2, rfl, hs⟩
    simp only [mfP, List.cons_append, List.nil_append] at hs
    refine lw_call rfl en13 (appU_sl hM (hs.arr [2, 3, 0, 1, 4, 5] 6 (by decide)) hE.x.I hE.x.a hE.x.w (by omega) (by omega) (by omega) (x := (enz z).2) (e := s1) (o := s2) (MfR.own 0 1 rfl rfl) (enz_obs z) (enz_ok z).2.2.2) ?_
    clear hs
    rintro _ w ⟨f', dk', q', c', n', eb1, rfl, hU, hs⟩
    refine lw_val rfl (run_assign (v := flV ad _ _) rfl) ?_
    refine lw_nil (cw_seq (cw_region ?_))
    refine lw_val rfl (run_move (v := .pointer (some _)) rfl) ?_
    refine lw_val rfl (run_move (v := .slice _ _ _) rfl) ?_
    refine lw_val rfl (run_move (v := .int .i64 _) rfl) ?_
    refine lw_val rfl (run_indexAddr Tryz.underlying22 sz3 rfl rfl rfl (by omega) rfl) ?_
    refine lw_val rfl (run_load Tryz.underlying3 rfl rfl ((h0.rd _).cellAt hs (intsL_at hz))) ?_
    refine lw_call rfl en12 (entry17_sl hs z) ?_
    clear hs
    rintro _ w ⟨s3, s4, rfl, hs⟩
    simp only [mfP, List.cons_append, List.nil_append] at hs
    refine lw_call rfl en13 (appU_sl hM (hs.arr [7, 8, 0, 1, 2, 3, 4] 9 (by decide)) hE.y.I hE.y.a hE.y.w (by omega) (by omega) (by omega) (x := (enz z).2) (e := s3) (o := s4) (MfR.own 0 1 rfl rfl) (enz_obs z) (enz_ok z).2.2.2) ?_
    clear hs
    rintro _ w ⟨f2', dq', q2, c2', m', eb2, rfl, hU2, hs⟩
    have h9 := hs.arr [0, 5, 6, 7, 1, 2] 8 (by decide)
    clear hs
    obtain ⟨rfl, hE2⟩ := hE.step hev8.1 (by omega) hU hU2
    have hfa := apply_fltA V (enz z).1 (enz z).2
    obtain ⟨V', hV'⟩ : ∃ V', V' = (V.apply (enz z).1 (enz z).2).2 := ⟨_, rfl⟩
    have hs : Mem g w [flC ad (V.apply (enz z).1 (enz z).2).1 eb2, flC ad (V.apply (enz z).1 (enz z).2).1 eb1, LogC p1 d1 ev V' q2 c' n', DiskC d1 dk', LogC p2 d2 4000 V' q2 c2' m', DiskC d2 dq'] := by rw [hV']; exact h9
    rw [← hV'] at hE2
    have hn1 := hE2.small hev8.1
    have hn2 := hE2.hm
    refine lw_val rfl (run_assign (v := flV ad _ _) rfl) ?_
    refine lw_nil ?_
    refine cw_seq ?_
    refine cw_seq (cw_region ?_)
    refine lw_val rfl (run_move (v := flV ad _ _) rfl) ?_
    refine lw_val rfl (run_move (v := flV ad _ _) rfl) ?_
    refine lw_call rfl en25 (faultF_sl hA hfa hs) ?_
    clear hs
    rintro _ w ⟨rfl, hs⟩
    refine lw_call rfl en24 (sameFt_sl hA hfa (hs.arr [1, 0, 2, 3, 4, 5] 6 (by decide))) ?_
    clear hs
    rintro _ w ⟨rfl, hs⟩
    refine lw_val rfl (run_not rfl) ?_
    refine lw_val rfl (run_move (v := .bool _) rfl) ?_
    refine lw_on rfl rfl (not_f (rfl)) ?_
    refine lw_val rfl (run_move (v := .pointer (some _)) rfl) ?_
    refine lw_on rfl rfl (not_f (rfl)) ?_
    refine lw_call rfl en21 (lview_sl (hs.arr [2, 3, 4, 5] 6 (by decide))) ?_
    clear hs
    rintro _ w ⟨u1, rfl, hs⟩
    refine lw_on rfl rfl (not_f (rfl)) ?_
    refine lw_val rfl (run_move (v := .pointer (some _)) rfl) ?_
    refine lw_on rfl rfl (not_f (rfl)) ?_
    refine lw_call rfl en21 (lview_sl (hs.arr [3, 0, 1, 2, 4] 5 (by decide))) ?_
    clear hs
    rintro _ w ⟨u2, rfl, hs⟩
    refine lw_on rfl rfl (not_f (rfl)) ?_
    refine lw_call rfl en22 (sameq_sl (hs.arr [2, 0, 3, 4, 1, 5] 6 (by decide))) ?_
    clear hs
    rintro _ w ⟨⟨b, rfl, hb⟩, hs⟩
    obtain rfl : b = true := hb.2 (EqV.rfl' _)
    replace hs : Mem g w [ViewQ u1 V', ViewQ u2 V', LogC p1 d1 ev V' q2 c' n', DiskC d1 dk', LogC p2 d2 4000 V' q2 c2' m', DiskC d2 dq'] := hs
    refine lw_on rfl rfl (not_f (rfl)) ?_
    refine lw_val rfl (run_not rfl) ?_
    refine lw_val rfl (run_pickF (v := .bool _) rfl (not_f (rfl)) rfl) ?_
    refine lw_val rfl (run_move (v := .bool _) rfl) ?_
    refine lw_on rfl rfl (not_f (rfl)) ?_
    refine lw_val rfl (run_move (v := .pointer (some _)) rfl) ?_
    refine lw_on rfl rfl (not_f (rfl)) ?_
    refine lw_call rfl en20 (seq_sl (hs.arr [2, 3, 4, 5] 6 (by decide))) ?_
    clear hs
    rintro _ w ⟨rfl, hs⟩
    refine lw_on rfl rfl (not_f (rfl)) ?_
    refine lw_val rfl (run_move (v := .pointer (some _)) rfl) ?_
    refine lw_on rfl rfl (not_f (rfl)) ?_
    refine lw_call rfl en20 (seq_sl (hs.arr [2, 0, 1, 3] 4 (by decide))) ?_
    clear hs
    rintro _ w ⟨rfl, hs⟩
    replace hs : Mem g w [LogC p2 d2 4000 V' q2 c2' m', LogC p1 d1 ev V' q2 c' n', DiskC d1 dk', DiskC d2 dq'] := hs
    refine lw_on rfl rfl (not_f (rfl)) ?_
    refine lw_val rfl (run_nei rfl rfl) ?_
    refine lw_val rfl (run_pickF (v := .bool _) rfl (not_f (rfl)) rfl) ?_
    refine lw_nil ?_
    refine cw_iff rfl ((by simp)) ?_
    refine cw_skip ?_
    refine cw_seq (cw_region ?_)
    refine lw_val rfl (run_move (v := .pointer (some _)) rfl) ?_
    refine lw_call rfl en15 (len_sl hM.toK (hs.arr [2, 0, 1, 3] 4 (by decide)) mtN (lenU hE2.x.I hE2.x.w)) ?_
    clear hs
    rintro _ w ⟨rfl, hs⟩
    refine lw_val rfl (run_move (v := .tuple _) rfl) ?_
    refine lw_val rfl (run_extract (v := .int .i64 _) rfl rfl) ?_
    refine lw_val rfl (run_extract (v := errV ad _) rfl rfl) ?_
    refine lw_val rfl (run_assign (v := .int .i64 _) rfl) ?_
    refine lw_val rfl (run_assign (v := errV ad _) rfl) ?_
    refine lw_nil (cw_seq (cw_region ?_))
    refine lw_val rfl (run_move (v := .pointer (some _)) rfl) ?_
    refine lw_call rfl en15 (len_sl hM.toK (hs.arr [3, 0, 1, 2] 4 (by decide)) mtN (lenU hE2.y.I hE2.y.w)) ?_
    clear hs
    rintro _ w ⟨rfl, hs⟩
    replace hs : Mem g w [DiskC d2 dq', DiskC d1 dk', LogC p2 d2 4000 V' q2 c2' m', LogC p1 d1 ev V' q2 c' n'] := hs
    refine lw_val rfl (run_move (v := .tuple _) rfl) ?_
    refine lw_val rfl (run_extract (v := .int .i64 _) rfl rfl) ?_
    refine lw_val rfl (run_extract (v := errV ad _) rfl rfl) ?_
    refine lw_val rfl (run_assign (v := .int .i64 _) rfl) ?_
    refine lw_val rfl (run_assign (v := errV ad _) rfl) ?_
    refine lw_nil ?_
    refine cw_seq ?_
    refine cw_seq (cw_region ?_)
    refine lw_val rfl (run_move (v := errV ad _) rfl) ?_
    refine lw_val rfl (run_neerrn (ad := ad) rfl) ?_
    refine lw_val rfl (run_move (v := .bool _) rfl) ?_
    refine lw_on rfl rfl (rfl) ?_
    refine lw_val rfl (run_move (v := errV ad _) rfl) ?_
    refine lw_on rfl rfl (rfl) ?_
    refine lw_val rfl (run_neerrn (ad := ad) rfl) ?_
    refine lw_val rfl (run_pickF (v := .bool _) rfl (rfl) rfl) ?_
    refine lw_val rfl (run_move (v := .bool _) rfl) ?_
    refine lw_on rfl rfl (rfl) ?_
    refine lw_val rfl (run_move (v := .int .i64 _) rfl) ?_
    refine lw_on rfl rfl (rfl) ?_
    refine lw_val rfl (run_move (v := .int .i64 _) rfl) ?_
    refine lw_on rfl rfl (rfl) ?_
    refine lw_val rfl (run_gtr rfl rfl) ?_
    refine lw_val rfl (run_pickF (v := .bool _) rfl (rfl) rfl) ?_
    refine lw_nil ?_
    refine cw_iff rfl (decide_eq_false (by omega)) ?_
    refine cw_skip ?_
    refine cw_seq ?_
    refine cw_seq ?_
    by_cases hF0 : (V.apply (enz z).1 (enz z).2).1.1 = 0
    ·
     refine cw_region ?_
     refine lw_val rfl (run_move (v := flV ad _ _) rfl) ?_
     refine lw_val rfl (run_eqF (hfa.elim (fun h => .inl (by rw [h])) (fun h => by by_cases h9 : (V.apply (enz z).1 (enz z).2).1.1 = 0; rw [h9] at h; exact absurd h (by decide); exact .inr h9)) rfl) ?_
     refine lw_val rfl (run_move (v := .bool _) rfl) ?_
     refine lw_on rfl rfl (decide_eq_true hF0) ?_
     refine lw_val rfl (run_move (v := .pointer (some _)) rfl) ?_
     refine lw_on rfl rfl (decide_eq_true hF0) ?_
     refine lw_call rfl en20 (seq_sl (hs.arr [3, 0, 1, 2] 4 (by decide))) ?_
     clear hs
     rintro _ w ⟨rfl, hs⟩
     refine lw_on rfl rfl (decide_eq_true hF0) ?_
     refine lw_val rfl (run_move (v := .int .i64 _) rfl) ?_
     refine lw_on rfl rfl (decide_eq_true hF0) ?_
     refine lw_val rfl (run_rem rfl rfl (by omega)) ?_
     refine lw_on rfl rfl (decide_eq_true hF0) ?_
     refine lw_val rfl (run_eqi rfl rfl) ?_
     refine lw_val rfl (run_pickT (v := .bool _) rfl (decide_eq_true hF0) rfl) ?_
     refine lw_val rfl (run_move (v := .bool _) rfl) ?_
     refine lw_split (t := _) (d := 153) rfl ?_ ?_
     ·
      intro h151
      have g151 := of_decide_eq_true h151
      have hz0 : n' = 0 := hE2.zero (by have h9 : (((q2 : Nat) : Int).tmod (ev : Nat)) = 0 := g151; rw [Int.tmod_eq_emod_of_nonneg (by omega)] at h9; omega)
      refine lw_on rfl rfl h151 ?_
      refine lw_val rfl (run_move (v := .int .i64 _) rfl) ?_
      refine lw_on rfl rfl h151 ?_
      refine lw_val rfl (run_nei rfl rfl) ?_
      refine lw_val rfl (run_pickT (v := .bool _) rfl h151 rfl) ?_
      refine lw_nil ?_
      refine cw_iff rfl ((by rw [hz0]; rfl)) ?_
      refine cw_skip ?_
      refine cw_region ?_
      refine lw_val rfl (run_move (v := .int .i64 _) rfl) ?_
      refine lw_val rfl (run_move (v := .int .i64 _) rfl) ?_
      refine lw_val rfl (run_max rfl rfl) ?_
      refine lw_val rfl (run_assign (v := .int .i64 _) rfl) ?_
      refine lw_nil ?_
      refine cw_region ?_
      refine lw_val rfl (run_move (v := .int .i64 _) rfl) ?_
      refine lw_val rfl (run_add64 rfl rfl rfl (inI (by omega) (by omega))) ?_
      refine lw_val rfl (run_assign (v := .int .i64 _) rfl) ?_
      refine lw_nil ?_
      exact ⟨(i + 1, max long n', V', q2, (c', n', f', dk'), (c2', m', f2', dq')), by simp only; omega, ⟨by simp only; omega, by simp only; omega, hE2, hs.arr [0, 2, 3, 1] 4 (by decide)⟩, ⟨rfl, (show Value.int .i64 (max ((long : Nat) : Int) ((n' : Nat) : Int)) = Value.int .i64 ((max long n' : Nat) : Int) from congrArg _ (by omega)), trivial⟩, by repeat (first | exact Out.mix _ _ _ | refine Out.updo rfl ?_ | refine Out.upd rfl ?_ | refine Out.mixIn rfl ?_)⟩
     ·
      intro h151
      have g151 := of_decide_eq_false h151
      refine lw_off rfl rfl rfl h151 ?_
      refine lw_off rfl rfl rfl h151 ?_
      refine lw_val rfl (run_pickF (v := .bool _) rfl h151 rfl) ?_
      refine lw_nil ?_
      refine cw_iff rfl rfl ?_
      refine cw_skip ?_
      refine cw_region ?_
      refine lw_val rfl (run_move (v := .int .i64 _) rfl) ?_
      refine lw_val rfl (run_move (v := .int .i64 _) rfl) ?_
      refine lw_val rfl (run_max rfl rfl) ?_
      refine lw_val rfl (run_assign (v := .int .i64 _) rfl) ?_
      refine lw_nil ?_
      refine cw_region ?_
      refine lw_val rfl (run_move (v := .int .i64 _) rfl) ?_
      refine lw_val rfl (run_add64 rfl rfl rfl (inI (by omega) (by omega))) ?_
      refine lw_val rfl (run_assign (v := .int .i64 _) rfl) ?_
      refine lw_nil ?_
      exact ⟨(i + 1, max long n', V', q2, (c', n', f', dk'), (c2', m', f2', dq')), by simp only; omega, ⟨by simp only; omega, by simp only; omega, hE2, hs.arr [0, 2, 3, 1] 4 (by decide)⟩, ⟨rfl, (show Value.int .i64 (max ((long : Nat) : Int) ((n' : Nat) : Int)) = Value.int .i64 ((max long n' : Nat) : Int) from congrArg _ (by omega)), trivial⟩, by repeat (first | exact Out.mix _ _ _ | refine Out.updo rfl ?_ | refine Out.upd rfl ?_ | refine Out.mixIn rfl ?_)⟩
    ·
     refine cw_region ?_
     refine lw_val rfl (run_move (v := flV ad _ _) rfl) ?_
     refine lw_val rfl (run_eqF (hfa.elim (fun h => .inl (by rw [h])) (fun h => by by_cases h9 : (V.apply (enz z).1 (enz z).2).1.1 = 0; rw [h9] at h; exact absurd h (by decide); exact .inr h9)) rfl) ?_
     refine lw_val rfl (run_move (v := .bool _) rfl) ?_
     refine lw_off rfl rfl rfl (decide_eq_false hF0) ?_
     refine lw_off rfl rfl rfl (decide_eq_false hF0) ?_
     refine lw_off rfl rfl rfl (decide_eq_false hF0) ?_
     refine lw_off rfl rfl rfl (decide_eq_false hF0) ?_
     refine lw_off rfl rfl rfl (decide_eq_false hF0) ?_
     refine lw_val rfl (run_pickF (v := .bool _) rfl (decide_eq_false hF0) rfl) ?_
     refine lw_val rfl (run_move (v := .bool _) rfl) ?_
     refine lw_off rfl rfl rfl rfl ?_
     refine lw_off rfl rfl rfl rfl ?_
     refine lw_val rfl (run_pickF (v := .bool _) rfl rfl rfl) ?_
     refine lw_nil ?_
     refine cw_iff rfl rfl ?_
     refine cw_skip ?_
     refine cw_region ?_
     refine lw_val rfl (run_move (v := .int .i64 _) rfl) ?_
     refine lw_val rfl (run_move (v := .int .i64 _) rfl) ?_
     refine lw_val rfl (run_max rfl rfl) ?_
     refine lw_val rfl (run_assign (v := .int .i64 _) rfl) ?_
     refine lw_nil ?_
     refine cw_region ?_
     refine lw_val rfl (run_move (v := .int .i64 _) rfl) ?_
     refine lw_val rfl (run_add64 rfl rfl rfl (inI (by omega) (by omega))) ?_
     refine lw_val rfl (run_assign (v := .int .i64 _) rfl) ?_
     refine lw_nil ?_
     exact ⟨(i + 1, max long n', V', q2, (c', n', f', dk'), (c2', m', f2', dq')), by simp only; omega, ⟨by simp only; omega, by simp only; omega, hE2, hs.arr [3, 1, 2, 0] 4 (by decide)⟩, ⟨rfl, (show Value.int .i64 (max ((long : Nat) : Int) ((n' : Nat) : Int)) = Value.int .i64 ((max long n' : Nat) : Int) from congrArg _ (by omega)), trivial⟩, by repeat (first | exact Out.mix _ _ _ | refine Out.updo rfl ?_ | refine Out.upd rfl ?_ | refine Out.mixIn rfl ?_)⟩
   ·
    intro h86
    have g86 := of_decide_eq_false h86
    refine cw_exit rfl ?_
    refine cw_seq (cw_region ?_)
    refine lw_val rfl (run_move (v := .int .i64 _) rfl) ?_
    refine lw_val rfl (run_move (v := .int .i64 _) rfl) ?_
    refine lw_val rfl (run_mul64 rfl rfl (c := ((100 * ev : Nat) : Int)) (by omega) (inI (by omega) (by omega))) ?_
    refine lw_val rfl (run_add64 rfl rfl (c := ((100 * ev + 1000 : Nat) : Int)) (by omega) (inI (by omega) (by omega))) ?_
    refine lw_val rfl (run_leq rfl rfl) ?_
    refine lw_val rfl (run_assign (v := .bool _) rfl) ?_
    refine lw_nil ?_
    refine cw_ret ?_
    refine res1 (v := .bool _) rfl rfl ?_
    exact ⟨_, rfl, ret_b (decide_eq_true (by omega)), hs.nil⟩
end Go.Proofs.YtdkgdjnbpjjfmaaGreatDoor
