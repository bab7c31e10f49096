/- The law ViewSpoilt: of spoilt bytes it is told. -/
import Derived.Test.YtkogkokmcmallaaGreatDoorZv
import Derived.Test.YtkogkokmcmallaaGreatDoorLV
namespace Go.Proofs.YtkogkokmcmallaaGreatDoor
set_option linter.all false
open Go.RowKit
attribute [local irreducible] errV
variable {g w : World} {L M : List HP} {ad : Nat → Addr} {p : Nat} {V : Vw}

def bI (id : Nat) : Nat := id
theorem OnV.sums (h : OnV bI 6 V) : V.sums := fun x hx q hq => by
  obtain ⟨id, _, _, hm, _⟩ := h.mem hx
  rw [hm] at hq
  simp only [oneM, List.mem_cons, List.not_mem_nil, or_false] at hq
  rcases hq with rfl | rfl <;> exact (by decide : (0 : Nat) < 4294967296)
theorem OnV.next6 (h : OnV bI 6 V) {id : Nat} (hid : id < 6) {k : Int} (hk : 1 ≤ k ∧ k ≤ 4) : ∃ c V', V.apply k (oneM id id) = ((c, none), V') ∧ OnV bI 6 V' := by
  have h1 := h.apply hid (by decide) (oneS id hid) hk
  by_cases hn : nextB (V.state id) k = true
  · rw [if_pos hn] at h1; exact ⟨_, _, h1, h.put hid hk⟩
  · rw [if_neg hn] at h1; exact ⟨_, _, h1, h⟩
theorem wfU8 {n : Int} (h : (Lit.int .u8 n).wf = true) : 0 ≤ n ∧ n < 256 := by
  simp only [Lit.wf, Bool.and_eq_true, decide_eq_true_eq, IntKind.min, IntKind.max, IntKind.signed, IntKind.bits] at h
  simp at h
  omega
theorem vint_all {c : Nat} (h : c ∈ vintCodes) : c ∈ allCodes := by
  simp only [vintCodes, allCodes, List.mem_cons, List.not_mem_nil, or_false] at *; omega
set_option maxHeartbeats 4000000 in
set_option maxRecDepth 10000 in
theorem viewSpoilt_sl (hA : ErrA ad g) (hs : Mem g w []) {a0 : Option Addr} {n0 c0 : Nat} {l : List Int} (h0 : Came g (.slice a0 n0 c0) (intsL l)) (e0 : n0 = l.length) (at_ : Int) (u : Int) (hu : 0 ≤ u ∧ u < 256) : Calls Tryz.prog 5 #[.slice a0 n0 c0, .int .i64 at_, .int .u8 u] w (Ret fun v w' => v = .bool true ∧ Mem g w' []) := by
  subst e0
  have hE : ErrV ad g := hA.view
  have hP : ErrP ad g := hA.point
  have hW : ErrW ad g := Errs.sub hA fun c hc => vint_all hc
  refine calls_cw Tryz.func5 rfl rfl ?_
  skip
  refine cw_seq ?_
  refine cw_region ?_
  first | refine lw_val rfl (run_assign (v := .bool _) rfl) ?_
  refine lw_nil ?_
  refine cw_seq ?_
  refine cw_region ?_
  refine lw_call rfl en27 (first16_sl hA hs) ?_
  clear hs
  rintro _ w ⟨rfl, hs⟩
  first | refine lw_val rfl (run_assign (v := .bool _) rfl) ?_
  refine lw_nil ?_
  refine cw_seq ?_
  refine cw_seq ?_
  refine cw_region ?_
  first | refine lw_val rfl (run_move (v := .bool _) rfl) ?_
  refine lw_val rfl (run_not rfl) ?_
  refine lw_nil ?_
  refine cw_iff rfl (not_f (rfl)) ?_
  refine cw_skip ?_
  refine cw_seq ?_
  refine cw_seq ?_
  refine cw_region ?_
  first | refine lw_val rfl (run_move (v := .slice _ _ _) rfl) ?_
  refine lw_val rfl (run_lenS Tryz.underlying22 rfl) ?_
  refine lw_val rfl (run_gtr rfl rfl) ?_
  first | refine lw_val rfl (run_move (v := .bool _) rfl) ?_
  refine lw_split (t := _) (d := 22) rfl ?_ ?_
  · intro h21
    have g21 := of_decide_eq_true h21
    refine lw_off rfl rfl rfl h21 ?_
    refine lw_off rfl rfl rfl h21 ?_
    first | refine lw_val rfl (run_pickT (v := .bool _) rfl h21 rfl) ?_
    first | refine lw_val rfl (run_move (v := .bool _) rfl) ?_
    refine lw_off rfl rfl rfl rfl ?_
    refine lw_off rfl rfl rfl rfl ?_
    first | refine lw_val rfl (run_pickT (v := .bool _) rfl rfl rfl) ?_
    refine lw_nil ?_
    refine cw_ift rfl rfl ?_
    refine cw_seq ?_
    refine cw_region ?_
    first | refine lw_val rfl (run_move (v := .bool _) rfl) ?_
    first | refine lw_val rfl (run_assign (v := .bool _) rfl) ?_
    refine lw_nil ?_
    refine cw_ret ?_
    refine res1 (v := .bool _) rfl rfl ?_
    exact ⟨_, rfl, rfl, hs⟩
  · intro h21
    have g21 := of_decide_eq_false h21
    refine lw_on rfl rfl h21 ?_
    first | refine lw_val rfl (run_move (v := .int .u8 _) rfl) ?_
    refine lw_on rfl rfl h21 ?_
    refine lw_val rfl (run_eqi rfl rfl) ?_
    first | refine lw_val rfl (run_pickF (v := .bool _) rfl h21 rfl) ?_
    first | refine lw_val rfl (run_move (v := .bool _) rfl) ?_
    refine lw_split (t := _) (d := 26) rfl ?_ ?_
    · intro h24
      have g24 := of_decide_eq_true h24
      refine lw_off rfl rfl rfl h24 ?_
      refine lw_off rfl rfl rfl h24 ?_
      first | refine lw_val rfl (run_pickT (v := .bool _) rfl h24 rfl) ?_
      refine lw_nil ?_
      refine cw_ift rfl rfl ?_
      refine cw_seq ?_
      refine cw_region ?_
      first | refine lw_val rfl (run_move (v := .bool _) rfl) ?_
      first | refine lw_val rfl (run_assign (v := .bool _) rfl) ?_
      refine lw_nil ?_
      refine cw_ret ?_
      refine res1 (v := .bool _) rfl rfl ?_
      exact ⟨_, rfl, rfl, hs⟩
    · intro h24
      have g24 := of_decide_eq_false h24
      refine lw_on rfl rfl h24 ?_
      first | refine lw_val rfl (run_move (v := .bool _) rfl) ?_
      refine lw_on rfl rfl h24 ?_
      refine lw_val rfl (run_not rfl) ?_
      first | refine lw_val rfl (run_pickF (v := .bool _) rfl h24 rfl) ?_
      refine lw_nil ?_
      refine cw_iff rfl (not_f (rfl)) ?_
      refine cw_skip ?_
      refine cw_seq ?_
      refine cw_region ?_
      refine lw_call rfl en28 (newv_sl hs) ?_
      clear hs
      rintro _ w ⟨p, rfl, hs⟩
      first | refine lw_val rfl (run_assign (v := .pointer (some _)) rfl) ?_ | refine lw_val rfl (run_assign (v := .pointer none) rfl) ?_ | refine lw_val rfl (run_assign (v := .pointer _) rfl) ?_
      refine lw_nil ?_
      refine cw_seq ?_
      refine cw_seq ?_
      refine cw_region ?_
      first | refine lw_val rfl (run_move (v := .pointer (some _)) rfl) ?_ | refine lw_val rfl (run_move (v := .pointer none) rfl) ?_ | refine lw_val rfl (run_move (v := .pointer _) rfl) ?_
      refine lw_val rfl (run_eqpn Tryz.underlying24 rfl rfl) ?_
      refine lw_nil ?_
      refine cw_iff rfl rfl ?_
      refine cw_skip ?_
      refine cw_seq ?_
      refine cw_seq ?_
      refine cw_region ?_
      first | refine lw_val rfl (run_assign (v := .int .i64 _) rfl) ?_
      refine lw_nil ?_
      refine cw_block ?_
      refine cw_loop (X := Nat × Vw) [9, 34, 35, 36, 37, 38, 39, 40, 41, 42, 43, 44, 45, 46, 47, 48, 49, 50, 51, 52, 53, 54, 55, 56, 57, 58, 59, 60] (fun q => [(9, .int .i64 (q.1 : Nat))]) (fun q w => q.1 ≤ l.length ∧ OnV bI 6 q.2 ∧ Mem g w [ViewC p q.2]) (fun q => l.length - q.1) ((0, [])) ?_ ?_ ?_
      · exact ⟨rfl, trivial⟩
      · exact ⟨Nat.zero_le _, OnV.nil, hs⟩
      clear hs
      rintro x ξ w hI
      obtain ⟨k, V⟩ := x
      obtain ⟨hk, hO, hs⟩ := hI
      simp only at hk hO hs
      show cw _ _ _ _ _ _ (updL (mix _ ξ _) [(9, .int .i64 (k : Nat))]) w
      refine cw_seq ?_
      refine cw_seq ?_
      refine cw_region ?_
      first | refine lw_val rfl (run_move (v := .int .i64 _) rfl) ?_
      first | refine lw_val rfl (run_move (v := .slice _ _ _) rfl) ?_
      refine lw_val rfl (run_lenS Tryz.underlying22 rfl) ?_
      refine lw_val rfl (run_lss rfl rfl) ?_
      refine lw_nil ?_
      refine cw_if rfl ?_ ?_
      · intro h37
        have g37 := of_decide_eq_true h37
        obtain ⟨z, hz⟩ : ∃ z, l[k]? = some z := ⟨_, List.getElem?_eq_getElem (by omega)⟩
        obtain ⟨b1, o1, rfl, _⟩ := (h0.rd _).cells' hs (by rw [intsL_len]; omega)
        obtain ⟨id, hid⟩ : ∃ id, id = (z % ((6 : Nat) : Int)).toNat := ⟨_, rfl⟩
        have hid6 : id < 6 := by have := Int.emod_lt_of_pos z (show (0 : Int) < (6 : Nat) by decide); have := Int.emod_nonneg z (show ((6 : Nat) : Int) ≠ 0 by decide); omega
        refine cw_skip ?_
        refine cw_seq ?_
        refine cw_block ?_
        refine cw_drawS mixes hs.nil ?_
        intro w tr hK
        replace hs := tr _ hs
        clear tr
        first | refine aw_take 0 rfl (by kernel_rfl) (by kernel_rfl) (by kernel_rfl) rfl (fun w hs => run_move (v := .pointer (some _)) rfl) hK ?_ | refine aw_take 0 rfl (by kernel_rfl) (by kernel_rfl) (by kernel_rfl) rfl (fun w hs => run_move (v := .pointer none) rfl) hK ?_ | refine aw_take 0 rfl (by kernel_rfl) (by kernel_rfl) (by kernel_rfl) rfl (fun w hs => run_move (v := .pointer _) rfl) hK ?_
        first | refine aw_take 1 rfl (by kernel_rfl) (by kernel_rfl) (by kernel_rfl) rfl (fun w hs => run_move (v := .slice _ _ _) rfl) hK ?_
        first | refine aw_take 2 rfl (by kernel_rfl) (by kernel_rfl) (by kernel_rfl) rfl (fun w hs => run_move (v := .int .i64 _) rfl) hK ?_
        refine aw_take 3 rfl (by kernel_rfl) (by kernel_rfl) (by kernel_rfl) rfl (fun w hs => run_indexAddr Tryz.underlying22 sz3 rfl rfl rfl (by omega) rfl) hK ?_
        refine aw_take 4 rfl (by kernel_rfl) (by kernel_rfl) (by kernel_rfl) rfl (fun w hs => run_load Tryz.underlying3 rfl rfl ((h0.rd _).cellAt hs (intsL_at hz))) hK ?_
        refine aw_take 5 rfl (by kernel_rfl) (by kernel_rfl) (by kernel_rfl) rfl (fun w hs => run_quo rfl rfl (by decide)) hK ?_
        first | refine aw_take 8 rfl (by kernel_rfl) (by kernel_rfl) (by kernel_rfl) rfl (fun w hs => run_move (v := .slice _ _ _) rfl) hK ?_
        first | refine aw_take 9 rfl (by kernel_rfl) (by kernel_rfl) (by kernel_rfl) rfl (fun w hs => run_move (v := .int .i64 _) rfl) hK ?_
        refine aw_take 10 rfl (by kernel_rfl) (by kernel_rfl) (by kernel_rfl) rfl (fun w hs => run_indexAddr Tryz.underlying22 sz3 rfl rfl rfl (by omega) rfl) hK ?_
        refine aw_take 11 rfl (by kernel_rfl) (by kernel_rfl) (by kernel_rfl) rfl (fun w hs => run_load Tryz.underlying3 rfl rfl ((h0.rd _).cellAt hs (intsL_at hz))) hK ?_
        first | refine aw_take 13 rfl (by kernel_rfl) (by kernel_rfl) (by kernel_rfl) rfl (fun w hs => run_move (v := .slice _ _ _) rfl) hK ?_
        first | refine aw_take 14 rfl (by kernel_rfl) (by kernel_rfl) (by kernel_rfl) rfl (fun w hs => run_move (v := .int .i64 _) rfl) hK ?_
        refine aw_take 15 rfl (by kernel_rfl) (by kernel_rfl) (by kernel_rfl) rfl (fun w hs => run_indexAddr Tryz.underlying22 sz3 rfl rfl rfl (by omega) rfl) hK ?_
        refine aw_take 16 rfl (by kernel_rfl) (by kernel_rfl) (by kernel_rfl) rfl (fun w hs => run_load Tryz.underlying3 rfl rfl ((h0.rd _).cellAt hs (intsL_at hz))) hK ?_
        refine aw_ready [6] (by kernel_rfl) (by simp) ?_
        refine ⟨⟨_, rfl, ?_⟩, trivial⟩
        refine lw_call rfl en17 (numberE_sl hs (IntKind.i64.wrap (z.tdiv 6)) 4 (by decide)) ?_
        clear hs
        rintro _ w ⟨rfl, hs⟩
        obtain ⟨kd, hkd⟩ : ∃ kd, kd = (IntKind.i64.wrap (z.tdiv 6) % ((4 : Nat) : Int)).toNat := ⟨_, rfl⟩
        have hkd4 : kd < 4 := by have := Int.emod_lt_of_pos (IntKind.i64.wrap (z.tdiv 6)) (show (0 : Int) < (4 : Nat) by decide); have := Int.emod_nonneg (IntKind.i64.wrap (z.tdiv 6)) (show ((4 : Nat) : Int) ≠ 0 by decide); omega
        rw [← hkd]
        obtain ⟨ce, V', hap, hO'⟩ := hO.next6 hid6 (k := (kd : Int) + 1) (by omega)
        clear hK
        have hK := hs.nil
        refine lw_nil ⟨hK, ?_⟩
        refine aw_take 7 rfl (by kernel_rfl) (by kernel_rfl) (by kernel_rfl) rfl (fun w hs => run_add64 rfl rfl (c := (kd : Int) + 1) rfl (inI (by omega) (by omega))) hK ?_
        refine aw_ready [12] (by kernel_rfl) (by simp) ?_
        refine ⟨⟨_, rfl, ?_⟩, trivial⟩
        refine lw_call rfl en17 (numberE_sl hs z 6 (by decide)) ?_
        clear hs
        rintro _ w ⟨rfl, hs⟩
        rw [← hid]
        clear hK
        have hK := hs.nil
        refine lw_nil ⟨hK, ?_⟩
        refine aw_ready [17] (by kernel_rfl) (by simp) ?_
        refine ⟨⟨_, rfl, ?_⟩, trivial⟩
        refine lw_call rfl en17 (numberE_sl hs z 6 (by decide)) ?_
        clear hs
        rintro _ w ⟨rfl, hs⟩
        rw [← hid]
        clear hK
        have hK := hs.nil
        refine lw_nil ⟨hK, ?_⟩
        refine aw_ready [18] (by kernel_rfl) (by simp) ?_
        refine ⟨⟨_, rfl, ?_⟩, trivial⟩
        refine lw_call rfl en30 (one16_sl hs id id (by omega) (by omega) (oneS id hid6)) ?_
        clear hs
        rintro _ w ⟨s1, s2, rfl, hs⟩
        clear hK
        have hK := hs.nil
        refine lw_nil ⟨hK, ?_⟩
        refine @aw_take _ _ _ _ _ _ _ _ _ _ _ _ _ _ 19 _ rfl (by kernel_rfl) (by kernel_rfl) (by kernel_rfl) rfl (fun w hs => run_buildKM (k := (kd : Int) + 1) (m := oneM id id) (e := s1) (o := s2) Tryz.underlying63 ze63 pl63 rfl rfl) hK ?_
        refine aw_ready [20] (by kernel_rfl) (by simp) ?_
        refine ⟨⟨_, rfl, ?_⟩, trivial⟩
        refine lw_call rfl en29 (applyB_sl hE hs (i := 2) rfl ((kd : Int) + 1) (x := oneM id id) (s1 := s1) (s2 := s2) (MfR.own 0 1 rfl rfl) (by simp [oneM]) hap) ?_
        clear hs
        rintro _ w ⟨rfl, hs⟩
        clear hK
        have hK := hs.nil
        refine lw_nil ⟨hK, ?_⟩
        refine aw_done (by kernel_rfl) ?_
        clear hK
        refine cw_region ?_
        first | refine lw_val rfl (run_move (v := .int .i64 _) rfl) ?_
        refine lw_val rfl (run_add64 rfl rfl rfl (inI (by omega) (by omega))) ?_
        first | refine lw_val rfl (run_assign (v := .int .i64 _) rfl) ?_
        refine lw_nil ?_
        exact ⟨(k + 1, V'), by simp only; omega, ⟨by simp only; omega, hO', hs.arr [0] 3 (by decide)⟩, ⟨rfl, trivial⟩, by repeat (first | exact Out.mix _ _ _ | refine Out.updo rfl ?_ | refine Out.upd rfl ?_ | refine Out.mixIn rfl ?_)⟩
      · intro h37
        have g37 := of_decide_eq_false h37
        have hV6 := hO.len
        have hlb := vwBody_len (V := V) ((hs.openV).1) (by omega)
        have hok := (hs.openV).1
        have hbl : (vwB V).length = (vwBody V).length + 4 := sealL_len _
        refine cw_exit rfl ?_
        refine cw_seq ?_
        refine cw_region ?_
        first | refine lw_val rfl (run_move (v := .pointer (some _)) rfl) ?_ | refine lw_val rfl (run_move (v := .pointer none) rfl) ?_ | refine lw_val rfl (run_move (v := .pointer _) rfl) ?_
        refine lw_call rfl en31 (viewB_sl hE hs (by omega) hO.sums) ?_
        clear hs
        rintro _ w ⟨a62, c62, rfl, hs⟩
        first | refine lw_val rfl (run_assign (v := .slice _ _ _) rfl) ?_
        refine lw_nil ?_
        refine cw_seq ?_
        refine cw_region ?_
        first | refine lw_val rfl (run_move (v := .slice _ _ _) rfl) ?_
        refine lw_call rfl en32 (bcopy_sl hs (l := vwB V) (hs.rdOwn 0 rfl) rfl (by omega)) ?_
        clear hs
        rintro _ w ⟨a64, c64, rfl, hs⟩
        first | refine lw_val rfl (run_assign (v := .slice _ _ _) rfl) ?_
        refine lw_nil ?_
        refine cw_seq ?_
        obtain ⟨br, or_, rfl, _⟩ := hs.ownCells 0 rfl (by rw [bytesL_len]; omega)
        refine cw_region ?_
        first | refine lw_val rfl (run_move (v := .slice _ _ _) rfl) ?_
        first | refine lw_val rfl (run_move (v := .int .i64 _) rfl) ?_
        first | refine lw_val rfl (run_move (v := .slice _ _ _) rfl) ?_
        refine lw_val rfl (run_lenS Tryz.underlying64 rfl) ?_
        refine lw_call rfl en17 (numberL_sl hs at_ (vwB V).length (by omega)) ?_
        clear hs
        rintro _ w ⟨rfl, hr, hs⟩
        generalize (at_ % ((vwB V).length : Int)).toNat = r at hr ⊢
        obtain ⟨x, hx⟩ : ∃ x, (vwB V)[r]? = some x := ⟨_, List.getElem?_eq_getElem (by omega)⟩
        obtain ⟨x2, hx2, hux⟩ := xorB x u.toNat (by omega) (by omega)
        have hsp := open_spoilt (b := vwBody V) (i := r) (x := x2) hr (by intro h; rw [show (sealL (vwBody V))[r]? = some x from hx] at h; cases h; exact hx2 rfl)
        refine lw_val rfl (run_indexAddr Tryz.underlying64 sz5 rfl rfl rfl (by omega) rfl) ?_
        refine lw_val rfl (run_load Tryz.underlying5 rfl rfl (hs.ownAt 0 rfl (bytesL_at hx))) ?_
        first | refine lw_val rfl (run_move (v := .int .u8 _) rfl) ?_
        refine lw_val rfl (run_bits (by simp) rfl rfl (v := .int .u8 ((x2.toNat : Nat) : Int)) (by rw [← hux, Int.toNat_of_nonneg hu.1]; rfl)) ?_
        refine lw_val rfl (run_indexAddr Tryz.underlying64 sz5 rfl rfl rfl (by omega) rfl) ?_
        refine lw_storeOwn (j := r) (v := .int .u8 ((x2.toNat : Nat) : Int)) hs 0 rfl sz5 rfl rfl (by rw [bytesL_len]; omega) rfl rfl ?_
        clear hs
        intro w hs
        simp only [List.set_cons_succ, List.set_cons_zero] at hs
        rw [show (bytesL (vwB V)).set r (.int .u8 ((x2.toNat : Nat) : Int)) = bytesL ((vwB V).set r x2) by rw [bytesL, bytesL, List.map_set]; rfl] at hs
        refine lw_nil ?_
        refine cw_seq ?_
        refine cw_region ?_
        first | refine lw_val rfl (run_move (v := .slice _ _ _) rfl) ?_
        refine lw_call rfl en33 (readE_sl hP hs (hs.rdOwn 0 rfl) (by rw [List.length_set]) (hs.ownForm 0 rfl).2.1 (by rw [List.length_set]; omega) hsp (by decide)) ?_
        clear hs
        rintro _ w ⟨rfl, hs⟩
        first | refine lw_val rfl (run_move (v := .tuple _) rfl) ?_
        first | refine lw_val rfl (run_extract (v := .pointer (some _)) rfl rfl) ?_ | refine lw_val rfl (run_extract (v := .pointer none) rfl rfl) ?_ | refine lw_val rfl (run_extract (v := .pointer _) rfl rfl) ?_
        first | refine lw_val rfl (run_extract (v := errV ad _) rfl rfl) ?_ | refine lw_val rfl (run_extract (v := .nilIface) rfl rfl) ?_ | refine lw_val rfl (run_extract (v := eV ad _ _) rfl rfl) ?_ | refine lw_val rfl (run_extract (v := .iface _ (.pointer (some _))) rfl rfl) ?_ | refine lw_val rfl (run_extract (v := flV ad _ _) rfl rfl) ?_
        first | refine lw_val rfl (run_assign (v := .pointer (some _)) rfl) ?_ | refine lw_val rfl (run_assign (v := .pointer none) rfl) ?_ | refine lw_val rfl (run_assign (v := .pointer _) rfl) ?_
        first | refine lw_val rfl (run_assign (v := errV ad _) rfl) ?_ | refine lw_val rfl (run_assign (v := .nilIface) rfl) ?_ | refine lw_val rfl (run_assign (v := eV ad _ _) rfl) ?_ | refine lw_val rfl (run_assign (v := .iface _ (.pointer (some _))) rfl) ?_ | refine lw_val rfl (run_assign (v := flV ad _ _) rfl) ?_
        refine lw_nil ?_
        refine cw_seq ?_
        refine cw_region ?_
        first | refine lw_val rfl (run_move (v := .slice _ _ _) rfl) ?_
        refine lw_call rfl en33 (readV_sl hP hW hE hs (itsOf_bytes V) (hs.rdOwn 1 rfl) rfl (hs.ownForm 1 rfl).2.1 (by rw [itsOf_len]; omega) (itsOf_fine hok hO.sums) (itsOf_rise hok)) ?_
        clear hs
        rintro _ w ⟨pv, rfl, hs⟩
        first | refine lw_val rfl (run_move (v := .tuple _) rfl) ?_
        first | refine lw_val rfl (run_extract (v := .pointer (some _)) rfl rfl) ?_ | refine lw_val rfl (run_extract (v := .pointer none) rfl rfl) ?_ | refine lw_val rfl (run_extract (v := .pointer _) rfl rfl) ?_
        first | refine lw_val rfl (run_extract (v := errV ad _) rfl rfl) ?_ | refine lw_val rfl (run_extract (v := .nilIface) rfl rfl) ?_ | refine lw_val rfl (run_extract (v := eV ad _ _) rfl rfl) ?_ | refine lw_val rfl (run_extract (v := .iface _ (.pointer (some _))) rfl rfl) ?_ | refine lw_val rfl (run_extract (v := flV ad _ _) rfl rfl) ?_
        first | refine lw_val rfl (run_assign (v := .pointer (some _)) rfl) ?_ | refine lw_val rfl (run_assign (v := .pointer none) rfl) ?_ | refine lw_val rfl (run_assign (v := .pointer _) rfl) ?_
        first | refine lw_val rfl (run_assign (v := errV ad _) rfl) ?_ | refine lw_val rfl (run_assign (v := .nilIface) rfl) ?_ | refine lw_val rfl (run_assign (v := eV ad _ _) rfl) ?_ | refine lw_val rfl (run_assign (v := .iface _ (.pointer (some _))) rfl) ?_ | refine lw_val rfl (run_assign (v := flV ad _ _) rfl) ?_
        refine lw_nil ?_
        refine cw_seq ?_
        refine cw_region ?_
        first | refine lw_val rfl (run_move (v := errV ad _) rfl) ?_ | refine lw_val rfl (run_move (v := .nilIface) rfl) ?_ | refine lw_val rfl (run_move (v := eV ad _ _) rfl) ?_ | refine lw_val rfl (run_move (v := .iface _ (.pointer (some _))) rfl) ?_ | refine lw_val rfl (run_move (v := flV ad _ _) rfl) ?_
        refine lw_call rfl en23 (isV_sl hA hs (d := 102) (.inr (by decide)) 102) ?_
        clear hs
        rintro _ w ⟨rfl, hs⟩
        first | refine lw_val rfl (run_move (v := .bool _) rfl) ?_
        refine lw_on rfl rfl (rfl) ?_
        first | refine lw_val rfl (run_move (v := errV ad _) rfl) ?_ | refine lw_val rfl (run_move (v := .nilIface) rfl) ?_ | refine lw_val rfl (run_move (v := eV ad _ _) rfl) ?_ | refine lw_val rfl (run_move (v := .iface _ (.pointer (some _))) rfl) ?_ | refine lw_val rfl (run_move (v := flV ad _ _) rfl) ?_
        refine lw_on rfl rfl (rfl) ?_
        first | refine lw_val rfl (run_eqerrn (ad := ad) rfl) ?_ | refine lw_val rfl (run_eqnn rfl) ?_ | refine lw_val rfl (run_eqE (ad := ad) rfl) ?_
        first | refine lw_val rfl (run_pickT (v := .bool _) rfl (rfl) rfl) ?_
        first | refine lw_val rfl (run_move (v := .bool _) rfl) ?_
        refine lw_on rfl rfl (rfl) ?_
        first | refine lw_val rfl (run_move (v := .pointer (some _)) rfl) ?_ | refine lw_val rfl (run_move (v := .pointer none) rfl) ?_ | refine lw_val rfl (run_move (v := .pointer _) rfl) ?_
        refine lw_on rfl rfl (rfl) ?_
        refine lw_val rfl (run_nepn Tryz.underlying24 rfl rfl) ?_
        first | refine lw_val rfl (run_pickT (v := .bool _) rfl (rfl) rfl) ?_
        first | refine lw_val rfl (run_move (v := .bool _) rfl) ?_
        refine lw_on rfl rfl rfl ?_
        first | refine lw_val rfl (run_move (v := .pointer (some _)) rfl) ?_ | refine lw_val rfl (run_move (v := .pointer none) rfl) ?_ | refine lw_val rfl (run_move (v := .pointer _) rfl) ?_
        refine lw_on rfl rfl rfl ?_
        first | refine lw_val rfl (run_move (v := .pointer (some _)) rfl) ?_ | refine lw_val rfl (run_move (v := .pointer none) rfl) ?_ | refine lw_val rfl (run_move (v := .pointer _) rfl) ?_
        refine lw_on rfl rfl rfl ?_
        refine lw_call rfl en34 (same_sl (hs.arr [0, 3] 4 (by decide))) ?_
        clear hs
        rintro _ w ⟨⟨b, rfl, hb⟩, hs⟩
        have hbt : b = true := hb.2 (itsOf_same hok)
        subst hbt
        first | refine lw_val rfl (run_pickT (v := .bool _) rfl rfl rfl) ?_
        first | refine lw_val rfl (run_assign (v := .bool _) rfl) ?_
        refine lw_nil ?_
        refine cw_ret ?_
        refine res1 (v := .bool _) rfl rfl ?_
        exact ⟨_, rfl, rfl, hs.nil⟩
end Go.Proofs.YtkogkokmcmallaaGreatDoor
