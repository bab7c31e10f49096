/- Manifests as bytes. -/
import Derived.Test.YtkogkokmcmallaaGreatDoorMd
import Derived.Test.YtkogkokmcmallaaGreatDoorWn
import Derived.Test.YtkogkokmcmallaaGreatDoorZg
import Derived.Test.YtkogkokmcmallaaGreatDoorCr
namespace Go.Proofs.YtkogkokmcmallaaGreatDoor
set_option linter.all false
open Go.RowKit
attribute [local irreducible] errV
variable {g w : World} {L M : List HP} {ad : Nat → Addr} {p : Nat} {V : Vw}

def idB (n : Int) : List UInt8 := vputL n.toNat
def prB (q : Pr) : List UInt8 := idB q.1 ++ idB q.2
def epB (l : List Pr) : List UInt8 := l.flatMap prB
def oB (o : Ob) : List UInt8 := vputL o.1.size ++ o.1.data.toList ++ idB o.2.1 ++ vputL o.2.2
def obB (l : List Ob) : List UInt8 := l.flatMap oB
def hdB (x : Mf) : List UInt8 := idB x.id ++ idB x.base ++ idB x.fin ++ vputL (zig x.time) ++ vputL x.eps.length
def mfBody (x : Mf) : List UInt8 := hdB x ++ epB x.eps ++ vputL x.obs.length ++ obB x.obs
def mfB (x : Mf) : List UInt8 := sealL (mfBody x)
theorem vputL_len (n : Nat) : (vputL n).length ≤ 10 := vputF_len 10 n
theorem idB_len (n : Int) : (idB n).length ≤ 10 := vputL_len _
theorem hdB_len (x : Mf) : (hdB x).length ≤ 50 := by
  have h1 := idB_len x.id; have h2 := idB_len x.base; have h3 := idB_len x.fin; have h4 := vputL_len (zig x.time); have h5 := vputL_len x.eps.length
  simp only [hdB, List.length_append]; omega
theorem prB_len (q : Pr) : (prB q).length ≤ 20 := by
  have h1 := idB_len q.1; have h2 := idB_len q.2
  simp only [prB, List.length_append]; omega
theorem epB_len : ∀ l : List Pr, (epB l).length ≤ 20 * l.length
  | [] => by simp [epB]
  | q :: l => by
    have h1 := epB_len l; have h2 := prB_len q
    simp only [epB, List.flatMap_cons, List.length_append, List.length_cons] at h1 ⊢
    omega
theorem oB_len {o : Ob} (h : obBad o = 0) : (oB o).length ≤ 94 := by
  have h1 := vputL_len o.1.size; have h2 := idB_len o.2.1; have h3 := vputL_len o.2.2
  have h4 : o.1.data.toList.length ≤ 64 := by
    unfold obBad at h
    split at h
    · cases h
    · rename_i hv
      have hv : validB o.1.data.toList = true := by simpa using hv
      simp only [validB, Bool.and_eq_true, decide_eq_true_eq] at hv
      omega
  simp only [oB, List.length_append]; omega
theorem obB_len : ∀ l : List Ob, (∀ o ∈ l, obBad o = 0) → (obB l).length ≤ 94 * l.length
  | [], _ => by simp [obB]
  | o :: l, h => by
    have h1 := obB_len l fun x hx => h x (List.mem_cons_of_mem _ hx); have h2 := oB_len (h o (List.mem_cons_self ..))
    simp only [obB, List.flatMap_cons, List.length_append, List.length_cons] at h1 ⊢
    omega
theorem epB_next {l : List Pr} {k : Nat} {q : Pr} (h : l[k]? = some q) : epB (l.take (k + 1)) = epB (l.take k) ++ idB q.1 ++ idB q.2 := by
  simp [epB, List.take_add_one, h, prB]
theorem obB_next {l : List Ob} {k : Nat} {o : Ob} (h : l[k]? = some o) : obB (l.take (k + 1)) = obB (l.take k) ++ vputL o.1.size ++ o.1.data.toList ++ idB o.2.1 ++ vputL o.2.2 := by
  simp [obB, List.take_add_one, h, oB]
/-- What a manifest that may be is. -/
structure Fine (x : Mf) : Prop where
  id : 0 ≤ x.id ∧ x.id ≤ 2147483647
  base : 0 ≤ x.base ∧ x.base ≤ 1099511627776
  fin : 0 ≤ x.fin ∧ x.fin ≤ 1099511627776
  time : -1099511627776 ≤ x.time ∧ x.time ≤ 1099511627776
  eps : x.eps.length ≤ 256
  pr : ∀ q ∈ x.eps, (0 ≤ q.1 ∧ q.1 ≤ 1073741824) ∧ 0 ≤ q.2 ∧ q.2 ≤ 1099511627776
  obs : 1 ≤ x.obs.length ∧ x.obs.length ≤ 8
  ob : ∀ o ∈ x.obs, obBad o = 0
theorem mf_fine {x : Mf} (h : (mfF x).1 = 0) : Fine x := by
  have h8 := mf_len h
  have hid := mf_id h
  unfold mfF at h
  split at h
  · cases h
  · rename_i h1
    simp only [rangeBad, rightN, Bool.or_eq_true, Bool.not_eq_true', Bool.and_eq_false_iff, decide_eq_true_eq, decide_eq_false_iff_not, not_or] at h1
    split at h
    · rename_i h2; exact absurd h h2
    · rename_i h2
      split at h
      · cases h
      · have hp : ∀ q ∈ x.eps, prOk q = true := by
          have h2 : epF x.eps = 0 := by simpa using h2
          unfold epF at h2
          split at h2
          · cases h2
          · split at h2
            · cases h2
            · rename_i h3; simpa [List.all_eq_true] using h3
        have hob : (1 ≤ x.obs.length ∧ x.obs.length ≤ 8) ∧ ∀ o ∈ x.obs, obBad o = 0 := by
          unfold obF at h
          split at h
          · cases h
          · rename_i h4
            refine ⟨by omega, ?_⟩
            split at h
            · rename_i i hi
              rw [List.findIdx?_eq_some_iff_getElem] at hi
              obtain ⟨hl, hb, _⟩ := hi
              have hg : x.obs.getD i (ByteArray.empty, 0, 0) = x.obs[i] := by rw [List.getD_eq_getElem?_getD, List.getElem?_eq_getElem hl]; rfl
              simp only [hg] at h
              simp [h] at hb
            · rename_i hn
              rw [List.findIdx?_eq_none_iff] at hn
              intro o ho
              simpa using hn o ho
        refine ⟨hid, by omega, by omega, by omega, h8.1, fun q hq => ?_, hob.1, hob.2⟩
        have := hp q hq
        simp only [prOk, rightE, rightN, Bool.and_eq_true, decide_eq_true_eq] at this
        omega
theorem mfBody_len {x : Mf} (h : Fine x) : (mfBody x).length ≤ 6000 := by
  have h1 := hdB_len x; have h2 := epB_len x.eps; have h3 := vputL_len x.obs.length; have h4 := obB_len x.obs h.ob; have h5 := h.eps; have h6 := h.obs
  simp only [mfBody, List.length_append]; omega
theorem wrapN {n : Int} (h : 0 ≤ n ∧ n ≤ 1099511627776) : IntKind.u64.wrap n = ((n.toNat : Nat) : Int) := by rw [wrap_u64]; omega
theorem ob_fine {o : Ob} (h : obBad o = 0) : 0 ≤ o.2.1 ∧ o.2.1 ≤ 1073741824 := by
  unfold obBad at h
  split at h
  · cases h
  · split at h
    · cases h
    · omega
theorem src_str {P : Program} {tx : TypeId} (hk : P.underlying tx = some .string) (s : ByteArray) (w : World) : Src P 1 tx (.string s) (bytesL s.data.toList).length (bytesL s.data.toList) w := by
  have h := Src.ofString (P := P) w hk s
  have e : byteCells s = bytesL s.data.toList := rfl
  have e2 : s.size = (bytesL s.data.toList).length := by rw [bytesL_len]; exact Array.length_toList.symm
  rw [e, e2] at h
  exact h
set_option maxHeartbeats 2000000 in
theorem maniB_sl (hE : ErrV ad g) (hs : Mem g w L) {m : Mf} {e o : SA} (hm : MfR g L m e o) (h0 : mfF m = (0, none)) (hu : ∀ q ∈ m.obs, q.2.2 < 4294967296) : Calls Tryz.prog 113 #[.agg (mfL m e o).toArray] w (Ret fun v w' => ∃ a c, v = .tuple #[.slice a (mfB m).length c, .nilIface] ∧ Mem g w' (own (.slice a (mfB m).length c) (bytesL (mfB m)) :: L)) := by
  have hF := mf_fine (x := m) (by rw [h0])
  have hbl := mfBody_len hF
  have hhd := hdB_len m
  have h8 := hF.obs
  have h256 := hF.eps
  have hid := hF.id
  have hba := hF.base
  have hfi := hF.fin
  have hti := hF.time
  have i1 := idB_len m.id; have i2 := idB_len m.base; have i3 := idB_len m.fin; have i4 := vputL_len (zig m.time); have i5 := vputL_len m.eps.length; have i6 := vputL_len m.obs.length
  refine calls_cw Tryz.func113 rfl rfl ?_
  skip
  refine cw_seq ?_
  refine cw_region ?_
  refine lw_box (v := .agg _) hs rfl rfl ?_
  clear hs
  intro b1 w hs
  try simp only [List.set_cons_succ, List.set_cons_zero] at hs
  refine lw_val rfl (run_assign (v := .slice _ _ _) rfl) ?_
  refine lw_val rfl (run_assign (v := .nilIface) rfl) ?_
  refine lw_nil ?_
  refine cw_seq ?_
  refine cw_seq ?_
  refine cw_region ?_
  refine lw_val rfl (run_loadRow hs 0 rfl Tryz.underlying36 sz36 rfl) ?_
  refine lw_call rfl en107 (validM_sl hE hs hm.cons (by omega)) ?_
  clear hs
  rintro _ w ⟨eb, rfl, hs⟩
  rw [h0, flC_bare] at hs
  rw [h0, flV_bare]
  replace hs := hs.tail
  refine lw_val rfl (run_assign (v := errV ad _) rfl) ?_
  refine lw_nil ?_
  refine cw_seq ?_
  refine cw_region ?_
  refine lw_val rfl (run_move (v := errV ad _) rfl) ?_
  refine lw_val rfl (run_neerrn (ad := ad) rfl) ?_
  refine lw_nil ?_
  refine cw_iff rfl (rfl) ?_
  refine cw_skip ?_
  refine cw_seq ?_
  refine cw_region ?_
  refine lw_val rfl (run_fieldAddr (o' := 0) Tryz.underlying36 rfl sz3 rfl rfl rfl) ?_
  refine lw_val rfl (run_load Tryz.underlying3 rfl rfl (hs.cellAt 0 rfl rfl)) ?_
  refine lw_val rfl (run_convIn Tryz.underlying3 Tryz.underlying172 rfl (c := ((m.id.toNat : Nat) : Int)) (wrapN (by omega))) ?_
  refine lw_call rfl en111 (vput_sl hs (lb := []) (n := m.id.toNat) Rd.nil rfl (by decide) (by omega)) ?_
  clear hs
  rintro _ w ⟨a18, c18, rfl, hs⟩
  rw [List.nil_append] at hs ⊢
  refine lw_val rfl (run_assign (v := .slice _ _ _) rfl) ?_
  refine lw_nil ?_
  refine cw_seq ?_
  refine cw_region ?_
  refine lw_val rfl (run_move (v := .slice _ _ _) rfl) ?_
  refine lw_val rfl (run_fieldAddr (o' := 1) Tryz.underlying36 rfl sz2 rfl rfl rfl) ?_
  refine lw_val rfl (run_load Tryz.underlying2 rfl rfl (hs.cellAt 1 rfl rfl)) ?_
  refine lw_val rfl (run_convIn Tryz.underlying2 Tryz.underlying172 rfl (c := ((m.base.toNat : Nat) : Int)) (wrapN hba)) ?_
  refine lw_call rfl en111 (vput_sl hs (lb := idB m.id) (n := m.base.toNat) (hs.rdOwn 0 rfl) rfl (by omega) (by omega)) ?_
  clear hs
  rintro _ w ⟨a23, c23, rfl, hs⟩
  replace hs := hs.drop 1
  refine lw_val rfl (run_assign (v := .slice _ _ _) rfl) ?_
  refine lw_nil ?_
  refine cw_seq ?_
  refine cw_region ?_
  refine lw_val rfl (run_move (v := .slice _ _ _) rfl) ?_
  refine lw_val rfl (run_fieldAddr (o' := 2) Tryz.underlying36 rfl sz2 rfl rfl rfl) ?_
  refine lw_val rfl (run_load Tryz.underlying2 rfl rfl (hs.cellAt 1 rfl rfl)) ?_
  refine lw_val rfl (run_convIn Tryz.underlying2 Tryz.underlying172 rfl (c := ((m.fin.toNat : Nat) : Int)) (wrapN hfi)) ?_
  refine lw_call rfl en111 (vput_sl hs (lb := idB m.id ++ idB m.base) (n := m.fin.toNat) (hs.rdOwn 0 rfl) rfl (by simp only [List.length_append]; omega) (by omega)) ?_
  clear hs
  rintro _ w ⟨a28, c28, rfl, hs⟩
  replace hs := hs.drop 1
  refine lw_val rfl (run_assign (v := .slice _ _ _) rfl) ?_
  refine lw_nil ?_
  refine cw_seq ?_
  refine cw_region ?_
  refine lw_val rfl (run_move (v := .slice _ _ _) rfl) ?_
  refine lw_val rfl (run_fieldAddr (o' := 3) Tryz.underlying36 rfl sz2 rfl rfl rfl) ?_
  refine lw_val rfl (run_load Tryz.underlying2 rfl rfl (hs.cellAt 1 rfl rfl)) ?_
  refine lw_call rfl en198 (putint_sl hs (lb := idB m.id ++ idB m.base ++ idB m.fin) (z := zig m.time) (hs.rdOwn 0 rfl) rfl (by simp only [List.length_append]; omega) rfl rfl rfl rfl (zig_bits ⟨by omega, by omega⟩) (zig_lt ⟨by omega, by omega⟩)) ?_
  clear hs
  rintro _ w ⟨a32, c32, rfl, hs⟩
  replace hs := hs.drop 1
  refine lw_val rfl (run_assign (v := .slice _ _ _) rfl) ?_
  refine lw_nil ?_
  refine cw_seq ?_
  refine cw_region ?_
  refine lw_val rfl (run_move (v := .slice _ _ _) rfl) ?_
  refine lw_val rfl (run_fieldAddr (o' := 4) Tryz.underlying36 rfl sz33 rfl rfl rfl) ?_
  refine lw_val rfl (run_load Tryz.underlying33 rfl rfl (hs.cellAt 1 rfl rfl)) ?_
  refine lw_val rfl (run_lenS Tryz.underlying33 rfl) ?_
  refine lw_val rfl (run_convIn Tryz.underlying3 Tryz.underlying172 rfl (c := ((m.eps.length : Nat) : Int)) (wrapN (by omega))) ?_
  refine lw_call rfl en111 (vput_sl hs (lb := idB m.id ++ idB m.base ++ idB m.fin ++ vputL (zig m.time)) (n := m.eps.length) (hs.rdOwn 0 rfl) rfl (by simp only [List.length_append]; omega) (by omega)) ?_
  clear hs
  rintro _ w ⟨a38, c38, rfl, hs⟩
  replace hs := hs.drop 1
  have h9 : idB m.id ++ idB m.base ++ idB m.fin ++ vputL (zig m.time) ++ vputL m.eps.length = hdB m ++ epB (m.eps.take 0) := by simp [epB, hdB]
  rw [h9] at hs ⊢
  refine lw_val rfl (run_assign (v := .slice _ _ _) rfl) ?_
  refine lw_nil ?_
  refine cw_seq ?_
  refine cw_seq ?_
  refine cw_region ?_
  refine lw_val rfl (run_fieldAddr (o' := 4) Tryz.underlying36 rfl sz33 rfl rfl rfl) ?_
  refine lw_val rfl (run_load Tryz.underlying33 rfl rfl (hs.cellAt 1 rfl rfl)) ?_
  refine lw_val rfl (run_lenS Tryz.underlying33 rfl) ?_
  refine lw_val rfl (run_move (v := .int .i64 _) rfl) ?_
  refine lw_nil ?_
  refine cw_block ?_
  refine cw_loop (X := Nat × SA) [5, 7, 42, 43, 44, 45, 46, 47, 48, 49, 50, 51, 52, 53, 54, 55] (fun q => [(5, .slice q.2.1 (hdB m ++ epB (m.eps.take q.1)).length q.2.2), (42, .int .i64 (q.1 : Nat))]) (fun q w => q.1 ≤ m.eps.length ∧ Mem g w (own (.slice q.2.1 (hdB m ++ epB (m.eps.take q.1)).length q.2.2) (bytesL (hdB m ++ epB (m.eps.take q.1))) :: cells b1 (mfL m e o) 36 :: L)) (fun q => m.eps.length - q.1) ((0, (a38, c38))) ?_ ?_ ?_
  · exact ⟨rfl, rfl, trivial⟩
  · exact ⟨Nat.zero_le _, hs⟩
  clear hs
  rintro x ξ w hI
  obtain ⟨k, s⟩ := x
  obtain ⟨hk, hs⟩ := hI
  simp only at hk hs
  show cw _ _ _ _ _ _ (updL (mix _ ξ _) [(5, .slice s.1 (hdB m ++ epB (m.eps.take k)).length s.2), (42, .int .i64 (k : Nat))]) w
  refine cw_seq ?_
  refine cw_region ?_
  refine lw_val rfl (run_lss rfl rfl) ?_
  refine lw_nil ?_
  refine cw_seq ?_
  refine cw_if rfl ?_ ?_
  · intro h43
    have g43 := of_decide_eq_true h43
    obtain ⟨y, hy⟩ : ∃ y, m.eps[k]? = some y := ⟨_, List.getElem?_eq_getElem (by omega)⟩
    obtain ⟨b0, o0, hb0⟩ := hm.eps.cons.cons.at hs (by rw [len_prL]; omega)
    have hpy := hF.pr y (List.mem_of_getElem? hy)
    have hnx := epB_next hy
    have hel := epB_len (m.eps.take k)
    have hkl : (m.eps.take k).length = k := by rw [List.length_take]; omega
    have j1 := idB_len y.1
    have j2 := idB_len y.2
    obtain ⟨ea, ec⟩ := e
    simp only at hb0
    subst hb0
    refine cw_skip ?_
    refine cw_seq ?_
    refine cw_block ?_
    refine cw_seq ?_
    refine cw_region ?_
    refine lw_val rfl (run_indexAddrK Tryz.underlying33 sz141 rfl rfl rfl (by omega) rfl) ?_
    refine lw_val rfl (run_loadK (cs := prL y) Tryz.underlying141 sz141 rfl (fun j v hj => hm.eps.cons.cons.cell hs (prL_at hy) hj)) ?_
    refine lw_alloc hs rfl ze141 ?_
    clear hs
    intro b7 w hs
    try simp only [List.set_cons_succ, List.set_cons_zero] at hs
    refine lw_storeRow hs 0 rfl rfl rfl sz141 rfl rfl ?_
    clear hs
    intro w hs
    try simp only [List.set_cons_succ, List.set_cons_zero] at hs
    refine lw_nil ?_
    refine cw_drawS mixes (hs.drop 1) ?_
    intro w tr hK
    replace hs := tr _ hs
    clear tr
    refine aw_take 0 rfl (by kernel_rfl) (by kernel_rfl) (by kernel_rfl) rfl (fun w hs => run_move (v := .slice _ _ _) rfl) hK ?_
    refine aw_take 1 rfl (by kernel_rfl) (by kernel_rfl) (by kernel_rfl) rfl (fun w hs => run_fieldAddr (o' := 0) Tryz.underlying141 rfl sz3 rfl rfl rfl) hK ?_
    refine aw_take 2 rfl (by kernel_rfl) (by kernel_rfl) (by kernel_rfl) rfl (fun w hs => run_load Tryz.underlying3 rfl rfl (hs.cellAt 0 rfl rfl)) hK ?_
    refine aw_take 3 rfl (by kernel_rfl) (by kernel_rfl) (by kernel_rfl) rfl (fun w hs => run_convIn Tryz.underlying3 Tryz.underlying172 rfl (c := ((y.1.toNat : Nat) : Int)) (wrapN (by omega))) hK ?_
    refine aw_take 5 rfl (by kernel_rfl) (by kernel_rfl) (by kernel_rfl) rfl (fun w hs => run_fieldAddr (o' := 1) Tryz.underlying141 rfl sz2 rfl rfl rfl) hK ?_
    refine aw_take 6 rfl (by kernel_rfl) (by kernel_rfl) (by kernel_rfl) rfl (fun w hs => run_load Tryz.underlying2 rfl rfl (hs.cellAt 0 rfl rfl)) hK ?_
    refine aw_take 7 rfl (by kernel_rfl) (by kernel_rfl) (by kernel_rfl) rfl (fun w hs => run_convIn Tryz.underlying2 Tryz.underlying172 rfl (c := ((y.2.toNat : Nat) : Int)) (wrapN (by omega))) hK ?_
    refine aw_ready [4] (by kernel_rfl) (by simp) ?_
    refine ⟨⟨_, rfl, ?_⟩, trivial⟩
    refine lw_call rfl en111 (vput_sl hs (lb := hdB m ++ epB (m.eps.take k)) (n := y.1.toNat) (hs.rdOwn 1 rfl) rfl (by simp only [List.length_append]; omega) (by omega)) ?_
    clear hs
    rintro _ w ⟨a50, c50, rfl, hs⟩
    clear hK
    have hK := (hs.drop 2).tail
    refine lw_nil ⟨hK, ?_⟩
    refine aw_ready [8] (by kernel_rfl) (by simp) ?_
    refine ⟨⟨_, rfl, ?_⟩, trivial⟩
    refine lw_call rfl en111 (vput_sl hs (lb := hdB m ++ epB (m.eps.take k) ++ idB y.1) (n := y.2.toNat) (hs.rdOwn 0 rfl) rfl (by simp only [List.length_append]; omega) (by omega)) ?_
    clear hs
    rintro _ w ⟨a54, c54, rfl, hs⟩
    clear hK
    have hK := ((hs.drop 3).drop 1).tail
    refine lw_nil ⟨hK, ?_⟩
    refine aw_take 9 rfl (by kernel_rfl) (by kernel_rfl) (by kernel_rfl) rfl (fun w hs => run_assign (v := .slice _ _ _) rfl) hK ?_
    refine aw_done (by kernel_rfl) ?_
    clear hK
    refine cw_region ?_
    refine lw_val rfl (run_add64 rfl rfl rfl (inI (by omega) (by omega))) ?_
    refine lw_val rfl (run_move (v := .int .i64 _) rfl) ?_
    refine lw_nil ?_
    have e9 : hdB m ++ epB (m.eps.take k) ++ idB y.1 ++ vputL y.2.toNat = hdB m ++ epB (m.eps.take (k + 1)) := by rw [hnx]; simp [idB]
    rw [e9] at hs
    exact ⟨(k + 1, (a54, c54)), by simp only; omega, ⟨by simp only; omega, hs.arr [0, 4] 5 (by decide)⟩, ⟨show Value.slice a54 (hdB m ++ epB (m.eps.take k) ++ idB y.1 ++ vputL y.2.toNat).length c54 = Value.slice a54 (hdB m ++ epB (m.eps.take (k + 1))).length c54 from by rw [e9], rfl, trivial⟩, by repeat (first | exact Out.mix _ _ _ | refine Out.updo rfl ?_ | refine Out.upd rfl ?_ | refine Out.mixIn rfl ?_)⟩
  · intro h43
    have g43 := of_decide_eq_false h43
    have hke : k = m.eps.length := by omega
    subst hke
    rw [List.take_length] at hs ⊢
    have hel := epB_len m.eps
    refine cw_exit rfl ?_
    refine cw_seq ?_
    refine cw_region ?_
    refine lw_val rfl (run_move (v := .slice _ _ _) rfl) ?_
    refine lw_val rfl (run_fieldAddr (o' := 5) Tryz.underlying36 rfl sz34 rfl rfl rfl) ?_
    refine lw_val rfl (run_load Tryz.underlying34 rfl rfl (hs.cellAt 1 rfl rfl)) ?_
    refine lw_val rfl (run_lenS Tryz.underlying34 rfl) ?_
    refine lw_val rfl (run_convIn Tryz.underlying3 Tryz.underlying172 rfl (c := ((m.obs.length : Nat) : Int)) (wrapN (by omega))) ?_
    refine lw_call rfl en111 (vput_sl hs (lb := hdB m ++ epB m.eps) (n := m.obs.length) (hs.rdOwn 0 rfl) rfl (by simp only [List.length_append]; omega) (by omega)) ?_
    clear hs
    rintro _ w ⟨a61, c61, rfl, hs⟩
    replace hs := hs.drop 1
    obtain ⟨B, hB⟩ : ∃ B, B = hdB m ++ epB m.eps ++ vputL m.obs.length := ⟨_, rfl⟩
    rw [← hB] at hs ⊢
    have hBl : B.length ≤ 5300 := by rw [hB]; simp only [List.length_append]; omega
    have h10 : B = B ++ obB (m.obs.take 0) := (List.append_nil B).symm
    rw [h10] at hs ⊢
    refine lw_val rfl (run_assign (v := .slice _ _ _) rfl) ?_
    refine lw_nil ?_
    refine cw_seq ?_
    refine cw_seq ?_
    refine cw_region ?_
    refine lw_val rfl (run_fieldAddr (o' := 5) Tryz.underlying36 rfl sz34 rfl rfl rfl) ?_
    refine lw_val rfl (run_load Tryz.underlying34 rfl rfl (hs.cellAt 1 rfl rfl)) ?_
    refine lw_val rfl (run_lenS Tryz.underlying34 rfl) ?_
    refine lw_val rfl (run_move (v := .int .i64 _) rfl) ?_
    refine lw_nil ?_
    refine cw_block ?_
    refine cw_loop (X := Nat × SA) [5, 9, 65, 66, 67, 68, 69, 70, 71, 72, 73, 74, 75, 76, 77, 78, 79, 80, 81, 82, 83, 84, 85, 86, 87, 88] (fun q => [(5, .slice q.2.1 (B ++ obB (m.obs.take q.1)).length q.2.2), (65, .int .i64 (q.1 : Nat))]) (fun q w => q.1 ≤ m.obs.length ∧ Mem g w (own (.slice q.2.1 (B ++ obB (m.obs.take q.1)).length q.2.2) (bytesL (B ++ obB (m.obs.take q.1))) :: cells b1 (mfL m e o) 36 :: L)) (fun q => m.obs.length - q.1) ((0, (a61, c61))) ?_ ?_ ?_
    · exact ⟨rfl, rfl, trivial⟩
    · exact ⟨Nat.zero_le _, hs⟩
    clear hs
    rintro x ξ w hI
    obtain ⟨k, s⟩ := x
    obtain ⟨hk, hs⟩ := hI
    simp only at hk hs
    show cw _ _ _ _ _ _ (updL (mix _ ξ _) [(5, .slice s.1 (B ++ obB (m.obs.take k)).length s.2), (65, .int .i64 (k : Nat))]) w
    refine cw_seq ?_
    refine cw_region ?_
    refine lw_val rfl (run_lss rfl rfl) ?_
    refine lw_nil ?_
    refine cw_seq ?_
    refine cw_if rfl ?_ ?_
    · intro h66
      have g66 := of_decide_eq_true h66
      obtain ⟨y, hy⟩ : ∃ y, m.obs[k]? = some y := ⟨_, List.getElem?_eq_getElem (by omega)⟩
      obtain ⟨b0, o0, hb0⟩ := hm.obs.cons.cons.at hs (by rw [len_obL]; omega)
      have hpy := hF.ob y (List.mem_of_getElem? hy)
      have hpo := ob_fine hpy
      have huy := hu y (List.mem_of_getElem? hy)
      have hnx := obB_next hy
      have hel := obB_len (m.obs.take k) (fun q hq => hF.ob q (List.mem_of_mem_take hq))
      have hkl : (m.obs.take k).length = k := by rw [List.length_take]; omega
      have hol := oB_len hpy
      simp only [oB, List.length_append] at hol
      have hys : y.1.size = y.1.data.toList.length := Array.length_toList.symm
      obtain ⟨oa, oc⟩ := o
      simp only at hb0
      subst hb0
      refine cw_skip ?_
      refine cw_seq ?_
      refine cw_block ?_
      refine cw_seq ?_
      refine cw_region ?_
      refine lw_val rfl (run_indexAddrK Tryz.underlying34 sz41 rfl rfl rfl (by omega) rfl) ?_
      refine lw_val rfl (run_loadK (cs := obL y) Tryz.underlying41 sz41 rfl (fun j v hj => hm.obs.cons.cons.cell hs (obL_at hy) hj)) ?_
      refine lw_alloc hs rfl ze41 ?_
      clear hs
      intro b9 w hs
      try simp only [List.set_cons_succ, List.set_cons_zero] at hs
      refine lw_storeRow hs 0 rfl rfl rfl sz41 rfl rfl ?_
      clear hs
      intro w hs
      try simp only [List.set_cons_succ, List.set_cons_zero] at hs
      refine lw_nil ?_
      refine cw_seq ?_
      refine cw_region ?_
      refine lw_val rfl (run_move (v := .slice _ _ _) rfl) ?_
      refine lw_val rfl (run_fieldAddr (o' := 0) Tryz.underlying41 rfl sz9 rfl rfl rfl) ?_
      refine lw_val rfl (run_load Tryz.underlying9 rfl rfl (hs.cellAt 0 rfl rfl)) ?_
      refine lw_val rfl (run_lenT Tryz.underlying9 rfl) ?_
      refine lw_val rfl (run_convIn Tryz.underlying3 Tryz.underlying172 rfl (c := ((y.1.size : Nat) : Int)) (wrapN (by omega))) ?_
      refine lw_call rfl en111 (vput_sl hs (lb := B ++ obB (m.obs.take k)) (n := y.1.size) (hs.rdOwn 1 rfl) rfl (by simp only [List.length_append]; omega) (by omega)) ?_
      clear hs
      rintro _ w ⟨a74, c74, rfl, hs⟩
      refine lw_val rfl (run_assign (v := .slice _ _ _) rfl) ?_
      refine lw_nil ?_
      refine cw_seq ?_
      refine cw_region ?_
      refine lw_val rfl (run_move (v := .slice _ _ _) rfl) ?_
      refine lw_val rfl (run_fieldAddr (o' := 0) Tryz.underlying41 rfl sz9 rfl rfl rfl) ?_
      refine lw_val rfl (run_load Tryz.underlying9 rfl rfl (hs.cellAt 1 rfl rfl)) ?_
      refine lw_append hs rfl 0 rfl Tryz.underlying64 in5 rfl rfl rfl (src_str Tryz.underlying9 y.1 _) (by simp only [bytesL_len, List.length_append]; omega) (by simp only [bytesL_len, List.length_append]; omega) ?_
      clear hs
      intro a78 c78 w hs
      simp only [List.set_cons_succ, List.set_cons_zero] at hs
      have e8 : bytesL (B ++ obB (m.obs.take k) ++ vputL y.1.size) ++ bytesL y.1.data.toList = bytesL (B ++ obB (m.obs.take k) ++ vputL y.1.size ++ y.1.data.toList) := (bytesL_app _ _).symm
      have e7 : (bytesL (B ++ obB (m.obs.take k) ++ vputL y.1.size)).length + (bytesL y.1.data.toList).length = (B ++ obB (m.obs.take k) ++ vputL y.1.size ++ y.1.data.toList).length := by simp only [bytesL_len, List.length_append]
      rw [e7] at hs ⊢
      rw [e8] at hs
      refine lw_val rfl (run_assign (v := .slice _ _ _) rfl) ?_
      refine lw_nil ?_
      refine cw_drawS mixes hs.tail ?_
      intro w tr hK
      replace hs := tr _ hs
      clear tr
      refine aw_take 0 rfl (by kernel_rfl) (by kernel_rfl) (by kernel_rfl) rfl (fun w hs => run_move (v := .slice _ _ _) rfl) hK ?_
      refine aw_take 1 rfl (by kernel_rfl) (by kernel_rfl) (by kernel_rfl) rfl (fun w hs => run_fieldAddr (o' := 1) Tryz.underlying41 rfl sz3 rfl rfl rfl) hK ?_
      refine aw_take 2 rfl (by kernel_rfl) (by kernel_rfl) (by kernel_rfl) rfl (fun w hs => run_load Tryz.underlying3 rfl rfl (hs.cellAt 0 rfl rfl)) hK ?_
      refine aw_take 3 rfl (by kernel_rfl) (by kernel_rfl) (by kernel_rfl) rfl (fun w hs => run_convIn Tryz.underlying3 Tryz.underlying172 rfl (c := ((y.2.1.toNat : Nat) : Int)) (wrapN (by omega))) hK ?_
      refine aw_take 5 rfl (by kernel_rfl) (by kernel_rfl) (by kernel_rfl) rfl (fun w hs => run_fieldAddr (o' := 2) Tryz.underlying41 rfl sz39 rfl rfl rfl) hK ?_
      refine aw_take 6 rfl (by kernel_rfl) (by kernel_rfl) (by kernel_rfl) rfl (fun w hs => run_load Tryz.underlying39 rfl rfl (hs.cellAt 0 rfl rfl)) hK ?_
      refine aw_take 7 rfl (by kernel_rfl) (by kernel_rfl) (by kernel_rfl) rfl (fun w hs => run_convIn Tryz.underlying39 Tryz.underlying172 rfl (c := ((y.2.2 : Nat) : Int)) (by rw [wrap_u64]; omega)) hK ?_
      refine aw_ready [4] (by kernel_rfl) (by simp) ?_
      refine ⟨⟨_, rfl, ?_⟩, trivial⟩
      refine lw_call rfl en111 (vput_sl hs (lb := B ++ obB (m.obs.take k) ++ vputL y.1.size ++ y.1.data.toList) (n := y.2.1.toNat) (hs.rdOwn 0 rfl) rfl (by simp only [List.length_append]; omega) (by omega)) ?_
      clear hs
      rintro _ w ⟨a83, c83, rfl, hs⟩
      clear hK
      have hK := (hs.drop 1).tail
      refine lw_nil ⟨hK, ?_⟩
      refine aw_ready [8] (by kernel_rfl) (by simp) ?_
      refine ⟨⟨_, rfl, ?_⟩, trivial⟩
      refine lw_call rfl en111 (vput_sl hs (lb := B ++ obB (m.obs.take k) ++ vputL y.1.size ++ y.1.data.toList ++ idB y.2.1) (n := y.2.2) (hs.rdOwn 0 rfl) rfl (by simp only [List.length_append]; omega) (by omega)) ?_
      clear hs
      rintro _ w ⟨a87, c87, rfl, hs⟩
      clear hK
      have hK := ((hs.drop 2).drop 1).tail
      refine lw_nil ⟨hK, ?_⟩
      refine aw_take 9 rfl (by kernel_rfl) (by kernel_rfl) (by kernel_rfl) rfl (fun w hs => run_assign (v := .slice _ _ _) rfl) hK ?_
      refine aw_done (by kernel_rfl) ?_
      clear hK
      refine cw_region ?_
      refine lw_val rfl (run_add64 rfl rfl rfl (inI (by omega) (by omega))) ?_
      refine lw_val rfl (run_move (v := .int .i64 _) rfl) ?_
      refine lw_nil ?_
      have e9 : B ++ obB (m.obs.take k) ++ vputL y.1.size ++ y.1.data.toList ++ idB y.2.1 ++ vputL y.2.2 = B ++ obB (m.obs.take (k + 1)) := by rw [hnx]; simp only [List.append_assoc]
      rw [e9] at hs
      exact ⟨(k + 1, (a87, c87)), by simp only; omega, ⟨by simp only; omega, hs.arr [0, 5] 6 (by decide)⟩, ⟨show Value.slice a87 (B ++ obB (m.obs.take k) ++ vputL y.1.size ++ y.1.data.toList ++ idB y.2.1 ++ vputL y.2.2).length c87 = Value.slice a87 (B ++ obB (m.obs.take (k + 1))).length c87 from by rw [e9], rfl, trivial⟩, by repeat (first | exact Out.mix _ _ _ | refine Out.updo rfl ?_ | refine Out.upd rfl ?_ | refine Out.mixIn rfl ?_)⟩
    · intro h66
      have g66 := of_decide_eq_false h66
      have hke : k = m.obs.length := by omega
      subst hke
      rw [List.take_length] at hs ⊢
      have e9 : B ++ obB m.obs = mfBody m := by rw [hB]; rfl
      rw [e9] at hs ⊢
      refine cw_exit rfl ?_
      refine cw_seq ?_
      refine cw_region ?_
      refine lw_val rfl (run_move (v := .slice _ _ _) rfl) ?_
      refine lw_call rfl en114 (seal_sl hs (l := mfBody m) (hs.rdOwn 0 rfl) rfl (by omega)) ?_
      clear hs
      rintro _ w ⟨a90, c90, rfl, hs⟩
      refine lw_val rfl (run_assign (v := .slice _ _ _) rfl) ?_
      refine lw_val rfl (run_assign (v := .nilIface) rfl) ?_
      refine lw_nil ?_
      refine cw_ret ?_
      refine res2 (v := .slice _ _ _) (v2 := .nilIface) rfl rfl rfl ?_
      exact ⟨_, rfl, a90, c90, rfl, hs.arr [0] 3 (by decide)⟩
end Go.Proofs.YtkogkokmcmallaaGreatDoor
