/- The law MlogSnaps: a snapshot changes nothing that is told. -/
import Derived.Test.YtdkgdjnbpjjfmaaGreatDoorQ7
namespace Go.Proofs.YtdkgdjnbpjjfmaaGreatDoor
set_option linter.all false
open Go.RowKit
attribute [local irreducible] errV eV
variable {g w : World} {L M : List HP} {ad : Nat → Addr} {p d : Nat} {dk : Dk} {V : Vw}

def boolsL (l : List Bool) : List Value := l.map Value.bool
theorem boolsL_at {l : List Bool} {k : Nat} {x : Bool} (h : l[k]? = some x) : (boolsL l)[k]? = some (.bool x) := by simp [boolsL, h]
theorem boolsL_len (l : List Bool) : (boolsL l).length = l.length := by simp [boolsL]
theorem Came.bools {a : Option Addr} {n c : Nat} {l : List Bool} (h : seqV w (.slice a n c) (boolsL l)) (hb : ∀ b, blk (.slice a n c) = some b → b < w.heap.size) : Came w (.slice a n c) (boolsL l) ∧ n = l.length := ⟨⟨h, hb⟩, by have := h.len; simpa [boolsL] using this.symm⟩
set_option maxHeartbeats 4000000 in
set_option maxRecDepth 10000 in
theorem mlogSnaps_sl (hM : ErrM ad g) (hs : Mem g w []) {a0 a1 : Option Addr} {n0 c0 n1 c1 : Nat} {l : List Int} {bs : List Bool} (h0 : Came g (.slice a0 n0 c0) (intsL l)) (e0 : n0 = l.length) (h1 : Came g (.slice a1 n1 c1) (boolsL bs)) (e1 : n1 = bs.length) : Calls Tryz.prog 4 #[.slice a0 n0 c0, .slice a1 n1 c1] w (Ret fun v w' => v = .bool true ∧ Mem g w' []) := by
  subst e0
  subst e1
  refine calls_cw Tryz.func4 rfl rfl ?_
  skip
  refine cw_seq (cw_region ?_)
  refine lw_val rfl (run_assign (v := .bool _) rfl) ?_
  refine lw_nil (cw_seq (cw_region ?_))
  refine lw_call rfl en8 (first17_sl hM hs) ?_
  clear hs
  rintro _ w ⟨rfl, hs⟩
  refine lw_val rfl (run_assign (v := .bool _) rfl) ?_
  refine lw_nil ?_
  refine cw_seq ?_
  refine cw_seq (cw_region ?_)
  refine lw_val rfl (run_move (v := .bool _) rfl) ?_
  refine lw_val rfl (run_not rfl) ?_
  refine lw_nil ?_
  refine cw_iff rfl (not_f (rfl)) ?_
  refine cw_skip ?_
  refine cw_seq ?_
  refine cw_seq (cw_region ?_)
  refine lw_val rfl (run_move (v := .slice _ _ _) rfl) ?_
  refine lw_val rfl (run_lenS Tryz.underlying22 rfl) ?_
  refine lw_val rfl (run_gtr rfl rfl) ?_
  refine lw_val rfl (run_move (v := .bool _) rfl) ?_
  refine lw_split (t := _) (d := 23) rfl ?_ ?_
  ·
   intro h22
   have g22 := of_decide_eq_true h22
   refine lw_off rfl rfl rfl h22 ?_
   refine lw_off rfl rfl rfl h22 ?_
   refine lw_val rfl (run_pickT (v := .bool _) rfl h22 rfl) ?_
   refine lw_nil ?_
   refine cw_ift rfl rfl ?_
   refine cw_seq (cw_region ?_)
   refine lw_val rfl (run_move (v := .bool _) rfl) ?_
   refine lw_val rfl (run_assign (v := .bool _) rfl) ?_
   refine lw_nil ?_
   refine cw_ret ?_
   refine res1 (v := .bool _) rfl rfl ?_
   exact ⟨_, rfl, rfl, hs⟩
  ·
   intro h22
   have g22 := of_decide_eq_false h22
   refine lw_on rfl rfl h22 ?_
   refine lw_val rfl (run_move (v := .bool _) rfl) ?_
   refine lw_on rfl rfl h22 ?_
   refine lw_val rfl (run_not rfl) ?_
   refine lw_val rfl (run_pickF (v := .bool _) rfl h22 rfl) ?_
   refine lw_nil ?_
   refine cw_iff rfl (not_f (rfl)) ?_
   refine cw_skip ?_
   refine cw_seq (cw_region ?_)
   refine lw_call rfl en9 (newd_sl hs (r := 1048576) (by decide) (by decide)) ?_
   clear hs
   rintro _ w ⟨d, rfl, hs⟩
   refine lw_val rfl (run_move (v := .tuple _) rfl) ?_
   refine lw_val rfl (run_extract (v := .pointer (some _)) rfl rfl) ?_
   refine lw_val rfl (run_extract (v := .nilIface) rfl rfl) ?_
   refine lw_val rfl (run_assign (v := .pointer (some _)) rfl) ?_
   refine lw_val rfl (run_assign (v := .nilIface) rfl) ?_
   refine lw_nil (cw_seq (cw_region ?_))
   refine lw_val rfl (run_move (v := .pointer (some _)) rfl) ?_
   refine lw_call rfl en10 (open0_sl hM (rm := 1048576) (ev := 4000) (by decide) hs (by decide)) ?_
   clear hs
   rintro _ w ⟨p, dk0, rfl, k1, k2, k3, k4, hs⟩
   refine lw_val rfl (run_move (v := .tuple _) rfl) ?_
   refine lw_val rfl (run_extract (v := .pointer (some _)) rfl rfl) ?_
   refine lw_val rfl (run_extract (v := .nilIface) rfl rfl) ?_
   refine lw_val rfl (run_assign (v := .pointer (some _)) rfl) ?_
   refine lw_val rfl (run_assign (v := .nilIface) rfl) ?_
   refine lw_nil ?_
   refine cw_seq ?_
   refine cw_seq (cw_region ?_)
   refine lw_val rfl (run_move (v := .pointer (some _)) rfl) ?_
   refine lw_val rfl (run_eqpn Tryz.underlying30 rfl rfl) ?_
   refine lw_val rfl (run_move (v := .bool _) rfl) ?_
   refine lw_on rfl rfl (rfl) ?_
   refine lw_val rfl (run_move (v := .nilIface) rfl) ?_
   refine lw_on rfl rfl (rfl) ?_
   refine lw_val rfl (run_nenn rfl) ?_
   refine lw_val rfl (run_pickF (v := .bool _) rfl (rfl) rfl) ?_
   refine lw_val rfl (run_move (v := .bool _) rfl) ?_
   refine lw_on rfl rfl (rfl) ?_
   refine lw_val rfl (run_move (v := .nilIface) rfl) ?_
   refine lw_on rfl rfl (rfl) ?_
   refine lw_val rfl (run_nenn rfl) ?_
   refine lw_val rfl (run_pickF (v := .bool _) rfl (rfl) rfl) ?_
   refine lw_nil ?_
   refine cw_iff rfl (rfl) ?_
   refine cw_skip ?_
   refine cw_seq ?_
   refine cw_seq (cw_region ?_)
   refine lw_val rfl (run_assign (v := .int .i64 _) rfl) ?_
   refine lw_nil ?_
   refine cw_block ?_
   refine cw_loop (X := Nat × Vw × Nat × Nat × Nat × (ByteArray → Option (List UInt8)) × Dk) [4, 10, 11, 12, 13, 14, 15, 16, 47, 48, 49, 50, 51, 52, 53, 54, 55, 56, 57, 58, 59, 60, 61, 62, 63, 64, 65, 66, 67, 68, 69, 70, 71, 72, 73, 74, 75, 76, 77, 78, 79, 80, 81, 82, 83, 84, 85, 86, 87, 88, 89, 90, 91, 92, 93, 94, 95, 96, 97, 98, 99, 100, 101, 102, 103, 104, 105, 106, 107, 108, 109, 110, 111, 112, 113, 114, 115, 116, 117, 118, 119, 120, 121, 122, 123, 124, 125, 126] (fun q => [(10, .int .i64 (q.1 : Nat))]) (fun q w => q.1 ≤ l.length ∧ LgK q.2.2.2.2.2.1 q.2.2.2.2.2.2 q.2.2.1 q.2.2.2.1 q.2.2.2.2.1 q.2.1 q.1 (100 * q.1 + 4) ∧ Mem g w [LogC p d 4000 q.2.1 q.2.2.1 q.2.2.2.1 q.2.2.2.2.1, DiskC d q.2.2.2.2.2.2]) (fun q => l.length - q.1) ((0, [], 0, 0, 0, updF (fun _ => none) mtN [], dk0)) ?_ ?_ ?_
   · exact ⟨rfl, trivial⟩
   · exact ⟨Nat.zero_le _, LgK.zero k1 k2 k3 k4, hs⟩
   clear hs
   rintro x ξ w hI
   obtain ⟨i, V, q, c, n, f, dk⟩ := x
   obtain ⟨hi, hK, hs⟩ := hI
   simp only at hi hK hs
   have hKq := hK.q
   have hKc := hK.cl
   have hKr := hK.r
   show cw _ _ _ _ _ _ (updL (mix _ ξ _) [(10, .int .i64 (i : Nat))]) w
   refine cw_seq ?_
   refine cw_seq (cw_region ?_)
   refine lw_val rfl (run_move (v := .int .i64 _) rfl) ?_
   refine lw_val rfl (run_move (v := .slice _ _ _) rfl) ?_
   refine lw_val rfl (run_lenS Tryz.underlying22 rfl) ?_
   refine lw_val rfl (run_lss rfl rfl) ?_
   refine lw_nil ?_
   refine cw_if rfl ?_ ?_
   ·
    intro h50
    have g50 := of_decide_eq_true h50
    obtain ⟨z, hz⟩ : ∃ z, l[i]? = some z := ⟨_, List.getElem?_eq_getElem (by omega)⟩
    obtain ⟨b1, o1, rfl, _⟩ := (h0.rd _).cells' hs (by rw [intsL_len]; omega)
    refine cw_skip ?_
    refine cw_seq ?_
    refine cw_block ?_
    refine cw_seq (cw_region ?_)
    refine lw_val rfl (run_move (v := .pointer (some _)) rfl) ?_
    refine lw_val rfl (run_move (v := .slice _ _ _) rfl) ?_
    refine lw_val rfl (run_move (v := .int .i64 _) rfl) ?_
    refine lw_val rfl (run_indexAddr Tryz.underlying22 sz3 rfl rfl rfl (by omega) rfl) ?_
    refine lw_val rfl (run_load Tryz.underlying3 rfl rfl ((h0.rd _).cellAt hs (intsL_at hz))) ?_
    refine lw_call rfl en12 (entry17_sl hs z) ?_
    clear hs
    rintro _ w ⟨s1, s2, rfl, hs⟩
    simp only [mfP, List.cons_append, List.nil_append] at hs
    refine lw_call rfl en13 (appU_sl hM (hs.arr [2, 3, 0, 1] 4 (by decide)) hK.I hK.a hK.w (by omega) (by omega) (by omega) (x := (enz z).2) (e := s1) (o := s2) (MfR.own 0 1 rfl rfl) (enz_obs z) (enz_ok z).2.2.2) ?_
    clear hs
    rintro _ w ⟨f', dk', q', c', n', eb, rfl, hU, hs⟩
    have h9 := hs.tail.arr [0, 1] 4 (by decide)
    clear hs
    obtain ⟨V', hV'⟩ : ∃ V', V' = (V.apply (enz z).1 (enz z).2).2 := ⟨_, rfl⟩
    have hs : Mem g w [LogC p d 4000 V' q' c' n', DiskC d dk'] := by rw [hV']; exact h9
    have hK1 : LgK f' dk' q' c' n' V' (i + 1) (100 * i + 4 + 9) := by rw [hV']; exact hK.app hU
    have hq1 := hK1.q
    have hc1 := hK1.cl
    have hr1 := hK1.r
    refine lw_nil ?_
    refine cw_seq ?_
    refine cw_seq (cw_region ?_)
    refine lw_val rfl (run_move (v := .int .i64 _) rfl) ?_
    refine lw_val rfl (run_move (v := .slice _ _ _) rfl) ?_
    refine lw_val rfl (run_lenS Tryz.underlying52 rfl) ?_
    refine lw_val rfl (run_lss rfl rfl) ?_
    refine lw_val rfl (run_move (v := .bool _) rfl) ?_
    refine lw_split (t := _) (d := 64) rfl ?_ ?_
    ·
     intro h63
     have g63 := of_decide_eq_true h63
     obtain ⟨xb, hxb⟩ : ∃ xb, bs[i]? = some xb := ⟨bs[i]'(by omega), List.getElem?_eq_getElem _⟩
     obtain ⟨b2, o2, rfl, _⟩ := (h1.rd _).cells' hs (by rw [boolsL_len]; omega)
     refine lw_on rfl rfl h63 ?_
     refine lw_val rfl (run_move (v := .slice _ _ _) rfl) ?_
     refine lw_on rfl rfl h63 ?_
     refine lw_val rfl (run_move (v := .int .i64 _) rfl) ?_
     refine lw_on rfl rfl h63 ?_
     refine lw_val rfl (run_indexAddr Tryz.underlying52 sz4 rfl rfl rfl (by omega) rfl) ?_
     refine lw_on rfl rfl h63 ?_
     refine lw_val rfl (run_load Tryz.underlying4 rfl rfl ((h1.rd _).cellAt hs (boolsL_at hxb))) ?_
     refine lw_val rfl (run_pickT (v := .bool _) rfl h63 rfl) ?_
     refine lw_nil ?_
     refine cw_if rfl ?_ ?_
     ·
      intro h68
      refine cw_seq (cw_region ?_)
      refine lw_val rfl (run_move (v := .pointer (some _)) rfl) ?_
      refine lw_call rfl en21 (lview_sl hs) ?_
      clear hs
      rintro _ w ⟨u, rfl, hs⟩
      refine lw_val rfl (run_assign (v := .pointer (some _)) rfl) ?_
      refine lw_nil (cw_seq (cw_region ?_))
      refine lw_val rfl (run_move (v := .pointer (some _)) rfl) ?_
      refine lw_call rfl en20 (seq_sl (hs.arr [1, 0, 2] 3 (by decide))) ?_
      clear hs
      rintro _ w ⟨rfl, hs⟩
      refine lw_val rfl (run_assign (v := .int .i64 _) rfl) ?_
      refine lw_nil ?_
      refine cw_seq ?_
      refine cw_seq (cw_region ?_)
      refine lw_val rfl (run_move (v := .pointer (some _)) rfl) ?_
      refine lw_call rfl en23 (snapU_sl hM (hs.arr [0, 2, 1] 3 (by decide)) hK1.I hK1.a hK1.w (by omega) (by omega) (by omega)) ?_
      clear hs
      rintro _ w ⟨rfl, f2, dk2, g0, g1, g2, g3, g4, g5, hs⟩
      refine lw_val rfl (run_nenn rfl) ?_
      refine lw_val rfl (run_move (v := .bool _) rfl) ?_
      refine lw_on rfl rfl (rfl) ?_
      refine lw_val rfl (run_move (v := .pointer (some _)) rfl) ?_
      refine lw_on rfl rfl (rfl) ?_
      refine lw_call rfl en21 (lview_sl hs) ?_
      clear hs
      rintro _ w ⟨u2, rfl, hs⟩
      refine lw_on rfl rfl (rfl) ?_
      refine lw_val rfl (run_move (v := .pointer (some _)) rfl) ?_
      refine lw_on rfl rfl (rfl) ?_
      refine lw_call rfl en22 (sameq_sl (hs.arr [0, 3, 1, 2] 4 (by decide))) ?_
      clear hs
      rintro _ w ⟨⟨b, rfl, hb⟩, hs⟩
      obtain rfl : b = true := hb.2 (EqV.rfl' _)
      refine lw_on rfl rfl (rfl) ?_
      refine lw_val rfl (run_not rfl) ?_
      refine lw_val rfl (run_pickF (v := .bool _) rfl (rfl) rfl) ?_
      refine lw_val rfl (run_move (v := .bool _) rfl) ?_
      refine lw_on rfl rfl (not_f (rfl)) ?_
      refine lw_val rfl (run_move (v := .pointer (some _)) rfl) ?_
      refine lw_on rfl rfl (not_f (rfl)) ?_
      refine lw_call rfl en20 (seq_sl (hs.arr [2, 0, 1, 3] 4 (by decide))) ?_
      clear hs
      rintro _ w ⟨rfl, hs⟩
      refine lw_on rfl rfl (not_f (rfl)) ?_
      refine lw_val rfl (run_move (v := .int .i64 _) rfl) ?_
      refine lw_on rfl rfl (not_f (rfl)) ?_
      refine lw_val rfl (run_nei rfl rfl) ?_
      refine lw_val rfl (run_pickF (v := .bool _) rfl (not_f (rfl)) rfl) ?_
      refine lw_nil ?_
      refine cw_iff rfl ((by simp)) ?_
      refine cw_skip ?_
      refine cw_seq (cw_region ?_)
      refine lw_val rfl (run_move (v := .pointer (some _)) rfl) ?_
      refine lw_call rfl en15 (len_sl hM.toK (hs.arr [3, 0, 1, 2] 4 (by decide)) mtN (lenU g0 g4)) ?_
      clear hs
      rintro _ w ⟨rfl, hs⟩
      refine lw_val rfl (run_move (v := .tuple _) rfl) ?_
      refine lw_val rfl (run_extract (v := .int .i64 _) rfl rfl) ?_
      refine lw_val rfl (run_extract (v := errV ad _) rfl rfl) ?_
      refine lw_val rfl (run_assign (v := .int .i64 _) rfl) ?_
      refine lw_val rfl (run_assign (v := errV ad _) rfl) ?_
      refine lw_nil (cw_seq (cw_region ?_))
      refine lw_val rfl (run_move (v := errV ad _) rfl) ?_
      refine lw_val rfl (run_neerrn (ad := ad) rfl) ?_
      refine lw_val rfl (run_move (v := .bool _) rfl) ?_
      refine lw_on rfl rfl (rfl) ?_
      refine lw_val rfl (run_move (v := .int .i64 _) rfl) ?_
      refine lw_on rfl rfl (rfl) ?_
      refine lw_val rfl (run_nei rfl rfl) ?_
      refine lw_val rfl (run_pickF (v := .bool _) rfl (rfl) rfl) ?_
      refine lw_nil ?_
      refine cw_iff rfl (rfl) ?_
      refine cw_skip ?_
      refine cw_seq ?_
      have h9 := hs.arr [1, 0] 4 (by decide)
      clear hs
      have hs : Mem g w [LogC p d 4000 V' q' 0 0, DiskC d dk2] := h9
      have hK2 := hK1.shot g0 g1 g2 g3 g4
      refine cw_region ?_
      refine lw_val rfl (run_move (v := .pointer (some _)) rfl) ?_
      refine lw_call rfl en10 (openU_sl hM (hs.arr [1, 0] 2 (by decide)) hK2.I hK2.a (by have := hK2.cl; omega) (by decide) hK2.w (by have := hK2.q; omega)) ?_
      clear hs
      rintro _ w ⟨p2, dk3, rfl, j1, j2, j3, j4, hs⟩
      refine lw_val rfl (run_move (v := .tuple _) rfl) ?_
      refine lw_val rfl (run_extract (v := .pointer (some _)) rfl rfl) ?_
      refine lw_val rfl (run_extract (v := .nilIface) rfl rfl) ?_
      refine lw_val rfl (run_assign (v := .pointer (some _)) rfl) ?_
      refine lw_val rfl (run_assign (v := .nilIface) rfl) ?_
      refine lw_nil (cw_seq (cw_region ?_))
      refine lw_val rfl (run_move (v := .pointer (some _)) rfl) ?_
      refine lw_val rfl (run_eqpn Tryz.underlying30 rfl rfl) ?_
      refine lw_val rfl (run_move (v := .bool _) rfl) ?_
      refine lw_on rfl rfl (rfl) ?_
      refine lw_val rfl (run_move (v := .nilIface) rfl) ?_
      refine lw_on rfl rfl (rfl) ?_
      refine lw_val rfl (run_nenn rfl) ?_
      refine lw_val rfl (run_pickF (v := .bool _) rfl (rfl) rfl) ?_
      refine lw_val rfl (run_move (v := .bool _) rfl) ?_
      refine lw_on rfl rfl (rfl) ?_
      refine lw_val rfl (run_move (v := .pointer (some _)) rfl) ?_
      refine lw_on rfl rfl (rfl) ?_
      refine lw_call rfl en20 (seq_sl hs) ?_
      clear hs
      rintro _ w ⟨rfl, hs⟩
      refine lw_on rfl rfl (rfl) ?_
      refine lw_val rfl (run_move (v := .pointer (some _)) rfl) ?_
      refine lw_on rfl rfl (rfl) ?_
      refine lw_call rfl en20 (seq_sl (hs.arr [2, 0, 1] 3 (by decide))) ?_
      clear hs
      rintro _ w ⟨rfl, hs⟩
      refine lw_on rfl rfl (rfl) ?_
      refine lw_val rfl (run_nei rfl rfl) ?_
      refine lw_val rfl (run_pickF (v := .bool _) rfl (rfl) rfl) ?_
      refine lw_val rfl (run_move (v := .bool _) rfl) ?_
      refine lw_on rfl rfl ((by simp)) ?_
      refine lw_val rfl (run_move (v := .pointer (some _)) rfl) ?_
      refine lw_on rfl rfl ((by simp)) ?_
      refine lw_call rfl en21 (lview_sl (hs.arr [1, 0, 2] 3 (by decide))) ?_
      clear hs
      rintro _ w ⟨u3, rfl, hs⟩
      refine lw_on rfl rfl ((by simp)) ?_
      refine lw_val rfl (run_move (v := .pointer (some _)) rfl) ?_
      refine lw_on rfl rfl ((by simp)) ?_
      refine lw_call rfl en21 (lview_sl (hs.arr [2, 0, 1, 3] 4 (by decide))) ?_
      clear hs
      rintro _ w ⟨u4, rfl, hs⟩
      refine lw_on rfl rfl ((by simp)) ?_
      refine lw_call rfl en22 (sameq_sl (hs.arr [2, 0, 1, 3, 4] 5 (by decide))) ?_
      clear hs
      rintro _ w ⟨⟨b9, rfl, hb9⟩, hs⟩
      obtain rfl : b9 = true := hb9.2 (EqV.rfl' _)
      refine lw_on rfl rfl ((by simp)) ?_
      refine lw_val rfl (run_not rfl) ?_
      refine lw_val rfl (run_pickF (v := .bool _) rfl ((by simp)) rfl) ?_
      refine lw_nil ?_
      refine cw_iff rfl (not_f (rfl)) ?_
      refine cw_skip ?_
      refine cw_region ?_
      refine lw_val rfl (run_move (v := .int .i64 _) rfl) ?_
      refine lw_val rfl (run_add64 rfl rfl rfl (inI (by omega) (by omega))) ?_
      refine lw_val rfl (run_assign (v := .int .i64 _) rfl) ?_
      refine lw_nil ?_
      have hK3 := (hK2.next j1 j2 j3 j4).mono (K2 := i + 1) (B2 := 100 * (i + 1) + 4) (Nat.le_refl _) (by omega)
      exact ⟨(i + 1, V', q', _, _, _, dk3), by simp only; omega, ⟨by simp only; omega, hK3, hs.arr [2, 4] 5 (by decide)⟩, ⟨rfl, trivial⟩, by repeat (first | exact Out.mix _ _ _ | refine Out.updo rfl ?_ | refine Out.upd rfl ?_ | refine Out.mixIn rfl ?_)⟩
     ·
      intro h68
      refine cw_skip ?_
      refine cw_seq ?_
      have hK2 := hK1
      refine cw_region ?_
      refine lw_val rfl (run_move (v := .pointer (some _)) rfl) ?_
      refine lw_call rfl en10 (openU_sl hM (hs.arr [1, 0] 2 (by decide)) hK2.I hK2.a (by have := hK2.cl; omega) (by decide) hK2.w (by have := hK2.q; omega)) ?_
      clear hs
      rintro _ w ⟨p2, dk3, rfl, j1, j2, j3, j4, hs⟩
      refine lw_val rfl (run_move (v := .tuple _) rfl) ?_
      refine lw_val rfl (run_extract (v := .pointer (some _)) rfl rfl) ?_
      refine lw_val rfl (run_extract (v := .nilIface) rfl rfl) ?_
      refine lw_val rfl (run_assign (v := .pointer (some _)) rfl) ?_
      refine lw_val rfl (run_assign (v := .nilIface) rfl) ?_
      refine lw_nil (cw_seq (cw_region ?_))
      refine lw_val rfl (run_move (v := .pointer (some _)) rfl) ?_
      refine lw_val rfl (run_eqpn Tryz.underlying30 rfl rfl) ?_
      refine lw_val rfl (run_move (v := .bool _) rfl) ?_
      refine lw_on rfl rfl (rfl) ?_
      refine lw_val rfl (run_move (v := .nilIface) rfl) ?_
      refine lw_on rfl rfl (rfl) ?_
      refine lw_val rfl (run_nenn rfl) ?_
      refine lw_val rfl (run_pickF (v := .bool _) rfl (rfl) rfl) ?_
      refine lw_val rfl (run_move (v := .bool _) rfl) ?_
      refine lw_on rfl rfl (rfl) ?_
      refine lw_val rfl (run_move (v := .pointer (some _)) rfl) ?_
      refine lw_on rfl rfl (rfl) ?_
      refine lw_call rfl en20 (seq_sl hs) ?_
      clear hs
      rintro _ w ⟨rfl, hs⟩
      refine lw_on rfl rfl (rfl) ?_
      refine lw_val rfl (run_move (v := .pointer (some _)) rfl) ?_
      refine lw_on rfl rfl (rfl) ?_
      refine lw_call rfl en20 (seq_sl (hs.arr [2, 0, 1] 3 (by decide))) ?_
      clear hs
      rintro _ w ⟨rfl, hs⟩
      refine lw_on rfl rfl (rfl) ?_
      refine lw_val rfl (run_nei rfl rfl) ?_
      refine lw_val rfl (run_pickF (v := .bool _) rfl (rfl) rfl) ?_
      refine lw_val rfl (run_move (v := .bool _) rfl) ?_
      refine lw_on rfl rfl ((by simp)) ?_
      refine lw_val rfl (run_move (v := .pointer (some _)) rfl) ?_
      refine lw_on rfl rfl ((by simp)) ?_
      refine lw_call rfl en21 (lview_sl (hs.arr [1, 0, 2] 3 (by decide))) ?_
      clear hs
      rintro _ w ⟨u3, rfl, hs⟩
      refine lw_on rfl rfl ((by simp)) ?_
      refine lw_val rfl (run_move (v := .pointer (some _)) rfl) ?_
      refine lw_on rfl rfl ((by simp)) ?_
      refine lw_call rfl en21 (lview_sl (hs.arr [2, 0, 1, 3] 4 (by decide))) ?_
      clear hs
      rintro _ w ⟨u4, rfl, hs⟩
      refine lw_on rfl rfl ((by simp)) ?_
      refine lw_call rfl en22 (sameq_sl (hs.arr [2, 0, 1, 3, 4] 5 (by decide))) ?_
      clear hs
      rintro _ w ⟨⟨b9, rfl, hb9⟩, hs⟩
      obtain rfl : b9 = true := hb9.2 (EqV.rfl' _)
      refine lw_on rfl rfl ((by simp)) ?_
      refine lw_val rfl (run_not rfl) ?_
      refine lw_val rfl (run_pickF (v := .bool _) rfl ((by simp)) rfl) ?_
      refine lw_nil ?_
      refine cw_iff rfl (not_f (rfl)) ?_
      refine cw_skip ?_
      refine cw_region ?_
      refine lw_val rfl (run_move (v := .int .i64 _) rfl) ?_
      refine lw_val rfl (run_add64 rfl rfl rfl (inI (by omega) (by omega))) ?_
      refine lw_val rfl (run_assign (v := .int .i64 _) rfl) ?_
      refine lw_nil ?_
      have hK3 := (hK2.next j1 j2 j3 j4).mono (K2 := i + 1) (B2 := 100 * (i + 1) + 4) (Nat.le_refl _) (by omega)
      exact ⟨(i + 1, V', q', _, _, _, dk3), by simp only; omega, ⟨by simp only; omega, hK3, hs.arr [2, 4] 5 (by decide)⟩, ⟨rfl, trivial⟩, by repeat (first | exact Out.mix _ _ _ | refine Out.updo rfl ?_ | refine Out.upd rfl ?_ | refine Out.mixIn rfl ?_)⟩
    ·
     intro h63
     have g63 := of_decide_eq_false h63
     refine lw_off rfl rfl rfl h63 ?_
     refine lw_off rfl rfl rfl h63 ?_
     refine lw_off rfl rfl rfl h63 ?_
     refine lw_off rfl rfl rfl h63 ?_
     refine lw_val rfl (run_pickF (v := .bool _) rfl h63 rfl) ?_
     refine lw_nil ?_
     refine cw_iff rfl rfl ?_
     refine cw_skip ?_
     refine cw_seq ?_
     have hK2 := hK1
     refine cw_region ?_
     refine lw_val rfl (run_move (v := .pointer (some _)) rfl) ?_
     refine lw_call rfl en10 (openU_sl hM (hs.arr [1, 0] 2 (by decide)) hK2.I hK2.a (by have := hK2.cl; omega) (by decide) hK2.w (by have := hK2.q; omega)) ?_
     clear hs
     rintro _ w ⟨p2, dk3, rfl, j1, j2, j3, j4, hs⟩
     refine lw_val rfl (run_move (v := .tuple _) rfl) ?_
     refine lw_val rfl (run_extract (v := .pointer (some _)) rfl rfl) ?_
     refine lw_val rfl (run_extract (v := .nilIface) rfl rfl) ?_
     refine lw_val rfl (run_assign (v := .pointer (some _)) rfl) ?_
     refine lw_val rfl (run_assign (v := .nilIface) rfl) ?_
     refine lw_nil (cw_seq (cw_region ?_))
     refine lw_val rfl (run_move (v := .pointer (some _)) rfl) ?_
     refine lw_val rfl (run_eqpn Tryz.underlying30 rfl rfl) ?_
     refine lw_val rfl (run_move (v := .bool _) rfl) ?_
     refine lw_on rfl rfl (rfl) ?_
     refine lw_val rfl (run_move (v := .nilIface) rfl) ?_
     refine lw_on rfl rfl (rfl) ?_
     refine lw_val rfl (run_nenn rfl) ?_
     refine lw_val rfl (run_pickF (v := .bool _) rfl (rfl) rfl) ?_
     refine lw_val rfl (run_move (v := .bool _) rfl) ?_
     refine lw_on rfl rfl (rfl) ?_
     refine lw_val rfl (run_move (v := .pointer (some _)) rfl) ?_
     refine lw_on rfl rfl (rfl) ?_
     refine lw_call rfl en20 (seq_sl hs) ?_
     clear hs
     rintro _ w ⟨rfl, hs⟩
     refine lw_on rfl rfl (rfl) ?_
     refine lw_val rfl (run_move (v := .pointer (some _)) rfl) ?_
     refine lw_on rfl rfl (rfl) ?_
     refine lw_call rfl en20 (seq_sl (hs.arr [2, 0, 1] 3 (by decide))) ?_
     clear hs
     rintro _ w ⟨rfl, hs⟩
     refine lw_on rfl rfl (rfl) ?_
     refine lw_val rfl (run_nei rfl rfl) ?_
     refine lw_val rfl (run_pickF (v := .bool _) rfl (rfl) rfl) ?_
     refine lw_val rfl (run_move (v := .bool _) rfl) ?_
     refine lw_on rfl rfl ((by simp)) ?_
     refine lw_val rfl (run_move (v := .pointer (some _)) rfl) ?_
     refine lw_on rfl rfl ((by simp)) ?_
     refine lw_call rfl en21 (lview_sl (hs.arr [1, 0, 2] 3 (by decide))) ?_
     clear hs
     rintro _ w ⟨u3, rfl, hs⟩
     refine lw_on rfl rfl ((by simp)) ?_
     refine lw_val rfl (run_move (v := .pointer (some _)) rfl) ?_
     refine lw_on rfl rfl ((by simp)) ?_
     refine lw_call rfl en21 (lview_sl (hs.arr [2, 0, 1, 3] 4 (by decide))) ?_
     clear hs
     rintro _ w ⟨u4, rfl, hs⟩
     refine lw_on rfl rfl ((by simp)) ?_
     refine lw_call rfl en22 (sameq_sl (hs.arr [2, 0, 1, 3, 4] 5 (by decide))) ?_
     clear hs
     rintro _ w ⟨⟨b9, rfl, hb9⟩, hs⟩
     obtain rfl : b9 = true := hb9.2 (EqV.rfl' _)
     refine lw_on rfl rfl ((by simp)) ?_
     refine lw_val rfl (run_not rfl) ?_
     refine lw_val rfl (run_pickF (v := .bool _) rfl ((by simp)) rfl) ?_
     refine lw_nil ?_
     refine cw_iff rfl (not_f (rfl)) ?_
     refine cw_skip ?_
     refine cw_region ?_
     refine lw_val rfl (run_move (v := .int .i64 _) rfl) ?_
     refine lw_val rfl (run_add64 rfl rfl rfl (inI (by omega) (by omega))) ?_
     refine lw_val rfl (run_assign (v := .int .i64 _) rfl) ?_
     refine lw_nil ?_
     have hK3 := (hK2.next j1 j2 j3 j4).mono (K2 := i + 1) (B2 := 100 * (i + 1) + 4) (Nat.le_refl _) (by omega)
     exact ⟨(i + 1, V', q', _, _, _, dk3), by simp only; omega, ⟨by simp only; omega, hK3, hs.arr [2, 4] 5 (by decide)⟩, ⟨rfl, trivial⟩, by repeat (first | exact Out.mix _ _ _ | refine Out.updo rfl ?_ | refine Out.upd rfl ?_ | refine Out.mixIn rfl ?_)⟩
   ·
    intro h50
    have g50 := of_decide_eq_false h50
    refine cw_exit rfl ?_
    refine cw_seq (cw_region ?_)
    refine lw_val rfl (run_assign (v := .bool _) rfl) ?_
    refine lw_nil ?_
    refine cw_ret ?_
    refine res1 (v := .bool _) rfl rfl ?_
    exact ⟨_, rfl, rfl, hs.nil⟩
end Go.Proofs.YtdkgdjnbpjjfmaaGreatDoor
