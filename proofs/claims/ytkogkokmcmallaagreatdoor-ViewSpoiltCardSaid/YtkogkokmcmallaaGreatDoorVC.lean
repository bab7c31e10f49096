/- A view as bytes. -/
import Derived.Test.YtkogkokmcmallaaGreatDoorVB
import Derived.Test.YtkogkokmcmallaaGreatDoorVk
namespace Go.Proofs.YtkogkokmcmallaaGreatDoor
set_option linter.all false
open Go.RowKit
attribute [local irreducible] errV
variable {g w : World} {L M : List HP} {ad : Nat → Addr} {p : Nat} {V : Vw}

def itB (i : Itm) : List UInt8 := UInt8.ofNat i.st.toNat :: (vputL (mfB i.m).length ++ mfB i.m)
def itAt (V : Vw) (k : Int) : List UInt8 := (aget V k).elim [] itB
def vwBody (V : Vw) : List UInt8 := vputL V.length ++ (sortI (keysOf V)).flatMap (itAt V)
def vwB (V : Vw) : List UInt8 := sealL (vwBody V)
def Vw.sums (V : Vw) : Prop := ∀ x ∈ V, ∀ q ∈ x.2.m.obs, q.2.2 < 4294967296
theorem mfB_len {x : Mf} (h : (mfF x).1 = 0) : (mfB x).length ≤ 6004 := by
  have := mfBody_len (mf_fine h)
  rw [mfB, sealL_len]; omega
theorem itB_len {i : Itm} (h : (mfF i.m).1 = 0) : (itB i).length ≤ 6015 := by
  have h1 := mfB_len h
  have h2 := vputL_len (mfB i.m).length
  simp only [itB, List.length_cons, List.length_append]; omega
theorem itAt_len (ho : V.ok) (k : Int) : (itAt V k).length ≤ 6015 := by
  unfold itAt
  cases h : aget V k with
  | none => simp
  | some i => exact itB_len (ho.item h).1
theorem items_len (ho : V.ok) : ∀ l : List Int, (l.flatMap (itAt V)).length ≤ 6015 * l.length
  | [] => by simp
  | k :: l => by
    have h1 := items_len ho l
    have h2 := itAt_len ho k
    simp only [List.flatMap_cons, List.length_append, List.length_cons]; omega
theorem sortI_len (l : List Int) : (sortI l).length = l.length := by simp [sortI]
theorem vwBody_len (ho : V.ok) (h : V.length ≤ 100) : (vwBody V).length ≤ 601510 := by
  have h1 := items_len ho (sortI (keysOf V))
  have h2 := vputL_len V.length
  rw [sortI_len, keysOf, List.length_map] at h1
  simp only [vwBody, List.length_append, keysOf] at h1 ⊢; omega
theorem items_next {l : List Int} {k : Nat} {z : Int} {i : Itm} (hz : l[k]? = some z) (hi : aget V z = some i) : (l.take (k + 1)).flatMap (itAt V) = (l.take k).flatMap (itAt V) ++ [UInt8.ofNat i.st.toNat] ++ vputL (mfB i.m).length ++ mfB i.m := by
  simp [List.take_add_one, hz, itAt, hi, itB]
set_option maxHeartbeats 2000000 in
theorem viewB_sl (hE : ErrV ad g) (hs : Mem g w (ViewC p V :: L)) (hV : V.length ≤ 100) (hu : V.sums) : Calls Tryz.prog 31 #[.pointer (some ⟨p, 0, none⟩)] w (Ret fun v w' => ∃ a c, v = .slice a (vwB V).length c ∧ Mem g w' (own (.slice a (vwB V).length c) (bytesL (vwB V)) :: ViewC p V :: L)) := by
  obtain ⟨ho, m, es, hs⟩ := hs.openV
  simp only [viewP, List.cons_append, List.nil_append] at hs
  have hke := hs.famKeys 2 rfl
  have hl := keys_len hke
  have hbl := vwBody_len ho hV
  have hvl := vputL_len V.length
  obtain ⟨ks, hks⟩ : ∃ ks, ks = sortI (keysOf V) := ⟨_, rfl⟩
  have hkl : ks.length = V.length := by rw [hks, sortI_len]; simp [keysOf]
  have hmem : ∀ z ∈ ks, z ∈ keysOf V := fun z hz => by rw [hks] at hz; exact (List.mergeSort_perm _ _).mem_iff.1 hz
  have hil : ∀ k, k ≤ ks.length → ((ks.take k).flatMap (itAt V)).length ≤ 6015 * k := fun k hk => by have h1 := items_len ho (ks.take k); rw [List.length_take, Nat.min_eq_left hk] at h1; exact h1
  refine calls_cw Tryz.func31 rfl rfl ?_
  skip
  refine cw_seq ?_
  refine cw_region ?_
  refine lw_val rfl (run_assign (v := .slice _ _ _) rfl) ?_
  refine lw_nil ?_
  refine cw_seq ?_
  refine cw_region ?_
  refine lw_val rfl (run_move (v := .pointer (some _)) rfl) ?_
  refine lw_val rfl (run_nilCheckP rfl) ?_
  refine lw_val rfl (run_fieldAddr (o' := 0) Tryz.underlying162 rfl sz160 rfl rfl rfl) ?_
  refine lw_val rfl (run_load Tryz.underlying160 rfl rfl (hs.cellAt 0 rfl rfl)) ?_
  refine lw_val rfl (run_lenM (hs.mapAt 1 rfl) Tryz.underlying160 rfl) ?_
  refine lw_val rfl (run_convIn Tryz.underlying3 Tryz.underlying172 rfl (c := ((V.length : Nat) : Int)) (by rw [hl, wrap_u64]; omega)) ?_
  refine lw_call rfl en111 (vput_sl hs (lb := []) (n := V.length) Rd.nil rfl (by decide) (by omega)) ?_
  clear hs
  rintro _ w ⟨a15, c15, rfl, hs⟩
  rw [List.nil_append] at hs ⊢
  refine lw_val rfl (run_assign (v := .slice _ _ _) rfl) ?_
  refine lw_nil ?_
  refine cw_seq ?_
  refine cw_seq ?_
  refine cw_region ?_
  refine lw_val rfl (run_move (v := .pointer (some _)) rfl) ?_
  refine lw_val rfl (run_nilCheckP rfl) ?_
  refine lw_val rfl (run_fieldAddr (o' := 0) Tryz.underlying162 rfl sz160 rfl rfl rfl) ?_
  refine lw_val rfl (run_load Tryz.underlying160 rfl rfl (hs.cellAt 1 rfl rfl)) ?_
  refine lw_call rfl en112 (keysV_sl hs) ?_
  clear hs
  rintro _ w ⟨kb, rfl, hs⟩
  refine lw_call rfl en100 (sortedV_sl hs (i := 0) (j := 3) rfl rfl (fun z hz => by rw [hke] at hz; have := ho.ids hz; exact ⟨by omega, by omega⟩) (by omega)) ?_
  clear hs
  rintro _ w ⟨a21, c21, rfl, hs⟩
  rw [hke, ← hks] at hs ⊢
  have h10 : vputL V.length = vputL V.length ++ (ks.take 0).flatMap (itAt V) := (List.append_nil _).symm
  rw [h10] at hs ⊢
  refine lw_val rfl (run_lenS Tryz.underlying22 rfl) ?_
  refine lw_val rfl (run_move (v := .int .i64 _) rfl) ?_
  refine lw_nil ?_
  refine cw_block ?_
  refine cw_loop (X := Nat × SA) [3, 5, 6, 7, 8, 23, 24, 25, 26, 27, 28, 29, 30, 31, 32, 33, 34, 35, 36, 37, 38, 39, 40, 41, 42, 43, 44, 45, 46, 47, 48, 49, 50, 51, 52] (fun q => [(3, .slice q.2.1 (vputL V.length ++ (ks.take q.1).flatMap (itAt V)).length q.2.2), (23, .int .i64 (q.1 : Nat))]) (fun q w => q.1 ≤ ks.length ∧ Mem g w (own (.slice q.2.1 (vputL V.length ++ (ks.take q.1).flatMap (itAt V)).length q.2.2) (bytesL (vputL V.length ++ (ks.take q.1).flatMap (itAt V))) :: own (.slice a21 ks.length c21) (intsL ks) :: cells p [.map (some m)] 162 :: mapV m es :: famC itmC es V :: L)) (fun q => ks.length - q.1) ((0, (a15, c15))) ?_ ?_ ?_
  · exact ⟨rfl, rfl, trivial⟩
  · exact ⟨Nat.zero_le _, hs.arr [2, 0, 3, 4, 5] 6 (by decide)⟩
  clear hs
  rintro x ξ w hI
  obtain ⟨k, s⟩ := x
  obtain ⟨hk, hs⟩ := hI
  simp only at hk hs
  show cw _ _ _ _ _ _ (updL (mix _ ξ _) [(3, .slice s.1 (vputL V.length ++ (ks.take k).flatMap (itAt V)).length s.2), (23, .int .i64 (k : Nat))]) w
  refine cw_seq ?_
  refine cw_region ?_
  refine lw_val rfl (run_lss rfl rfl) ?_
  refine lw_nil ?_
  refine cw_seq ?_
  refine cw_if rfl ?_ ?_
  · intro h24
    have g24 := of_decide_eq_true h24
    obtain ⟨z, hz⟩ : ∃ z, ks[k]? = some z := ⟨_, List.getElem?_eq_getElem (by omega)⟩
    obtain ⟨i, hi⟩ := al_of_key (hmem z (List.mem_of_getElem? hz))
    obtain ⟨e, o, hes, hm⟩ := hs.itmAt 4 rfl hi
    have hit := ho.item hi
    have hnx := items_next hz hi
    have hil0 := hil k hk
    obtain ⟨b1, o1, rfl, _⟩ := (Rd.own (g := g) (L := _ :: own (.slice a21 ks.length c21) (intsL ks) :: _ :: _ :: _ :: L) 1 rfl).cells' hs (by rw [intsL_len]; omega)
    have hml := mfB_len hit.1
    have hvm := vputL_len (mfB i.m).length
    have hf0 : mfF i.m = (0, none) := flt0 (mfF_ok _) hit.1
    refine cw_skip ?_
    refine cw_seq ?_
    refine cw_block ?_
    refine cw_seq ?_
    refine cw_region ?_
    refine lw_val rfl (run_indexAddr Tryz.underlying22 sz3 rfl rfl rfl (by omega) rfl) ?_
    refine lw_val rfl (run_load Tryz.underlying3 rfl rfl (hs.ownAt 1 rfl (intsL_at hz))) ?_
    refine lw_val rfl (run_assign (v := .int .i64 _) rfl) ?_
    refine lw_nil ?_
    refine cw_seq ?_
    refine cw_region ?_
    refine lw_val rfl (run_move (v := .pointer (some _)) rfl) ?_
    refine lw_val rfl (run_nilCheckP rfl) ?_
    refine lw_val rfl (run_fieldAddr (o' := 0) Tryz.underlying162 rfl sz160 rfl rfl rfl) ?_
    refine lw_val rfl (run_load Tryz.underlying160 rfl rfl (hs.cellAt 2 rfl rfl)) ?_
    refine lw_val rfl (run_move (v := .int .i64 _) rfl) ?_
    refine lw_val rfl (run_lookup (hs.mapAt 3 rfl) intKind Tryz.underlying160 Tryz.underlying3 ze164 rfl rfl (o := some (itmV i e o)) hes) ?_
    refine lw_alloc hs rfl ze164 ?_
    clear hs
    intro b6 w hs
    try simp only [List.set_cons_succ, List.set_cons_zero] at hs
    refine lw_storeRow hs 0 rfl rfl rfl sz164 rfl rfl ?_
    clear hs
    intro w hs
    try simp only [List.set_cons_succ, List.set_cons_zero] at hs
    refine lw_nil ?_
    refine cw_seq ?_
    refine cw_region ?_
    refine lw_val rfl (run_fieldAddr (o' := 1) Tryz.underlying164 rfl sz36 rfl rfl rfl) ?_
    refine lw_val rfl (run_loadMid hs 0 (mfL i.m e o) rfl Tryz.underlying36 sz36 rfl rfl) ?_
    refine lw_call rfl en113 (maniB_sl hE hs hm.cons hf0 (hu _ (aget_mem hi))) ?_
    clear hs
    rintro _ w ⟨a36, c36, rfl, hs⟩
    refine lw_val rfl (run_move (v := .tuple _) rfl) ?_
    refine lw_val rfl (run_extract (v := .slice _ _ _) rfl rfl) ?_
    refine lw_val rfl (run_extract (v := .nilIface) rfl rfl) ?_
    refine lw_val rfl (run_assign (v := .slice _ _ _) rfl) ?_
    refine lw_val rfl (run_assign (v := .nilIface) rfl) ?_
    refine lw_nil ?_
    refine cw_seq ?_
    refine cw_region ?_
    refine lw_val rfl (run_move (v := .slice _ _ _) rfl) ?_
    refine lw_val rfl (run_fieldAddr (o' := 0) Tryz.underlying164 rfl sz3 rfl rfl rfl) ?_
    refine lw_val rfl (run_load Tryz.underlying3 rfl rfl (hs.cellAt 1 rfl rfl)) ?_
    refine lw_val rfl (run_convIn Tryz.underlying3 Tryz.underlying5 rfl (c := (((UInt8.ofNat i.st.toNat).toNat : Nat) : Int)) (by rw [← wrapB]; congr 1; omega)) ?_
    refine lw_buildSlice hs rfl ((bytesL [UInt8.ofNat i.st.toNat])) Tryz.underlying64 zs5 rfl (cells_one (bytesL_one _)) rfl rfl rfl ?_
    clear hs
    intro b43 w hs
    try simp only [List.set_cons_succ, List.set_cons_zero] at hs
    refine lw_append hs rfl 3 rfl Tryz.underlying64 in5 rfl rfl rfl (src_of_seq (P := Tryz.prog) Tryz.underlying64 ((Rd.cells (n := 1) (cs := bytesL [UInt8.ofNat i.st.toNat]) 0 rfl rfl).seq hs) (bytesL_one _)) (by simp only [bytesL_len, List.length_append, List.length_cons, List.length_nil]; omega) (by simp only [bytesL_len, List.length_append, List.length_cons, List.length_nil]; omega) ?_
    clear hs
    intro a44 c44 w hs
    simp only [List.set_cons_succ, List.set_cons_zero] at hs
    have e8 : bytesL (vputL V.length ++ (ks.take k).flatMap (itAt V)) ++ bytesL [UInt8.ofNat i.st.toNat] = bytesL (vputL V.length ++ (ks.take k).flatMap (itAt V) ++ [UInt8.ofNat i.st.toNat]) := (bytesL_app _ _).symm
    have e7 : (bytesL (vputL V.length ++ (ks.take k).flatMap (itAt V))).length + (bytesL [UInt8.ofNat i.st.toNat]).length = (vputL V.length ++ (ks.take k).flatMap (itAt V) ++ [UInt8.ofNat i.st.toNat]).length := by simp only [bytesL_len, List.length_append]
    rw [e7] at hs ⊢
    rw [e8] at hs
    refine lw_val rfl (run_assign (v := .slice _ _ _) rfl) ?_
    refine lw_nil ?_
    refine cw_region ?_
    refine lw_val rfl (run_move (v := .slice _ _ _) rfl) ?_
    refine lw_val rfl (run_move (v := .slice _ _ _) rfl) ?_
    refine lw_val rfl (run_lenS Tryz.underlying64 rfl) ?_
    refine lw_val rfl (run_convIn Tryz.underlying3 Tryz.underlying172 rfl (c := (((mfB i.m).length : Nat) : Int)) (by rw [wrap_u64]; omega)) ?_
    refine lw_call rfl en111 (vput_sl hs (lb := vputL V.length ++ (ks.take k).flatMap (itAt V) ++ [UInt8.ofNat i.st.toNat]) (n := (mfB i.m).length) (hs.rdOwn 3 rfl) rfl (by simp only [List.length_append, List.length_cons, List.length_nil]; omega) (by omega)) ?_
    clear hs
    rintro _ w ⟨a49, c49, rfl, hs⟩
    refine lw_val rfl (run_move (v := .slice _ _ _) rfl) ?_
    refine lw_append hs rfl 0 rfl Tryz.underlying64 in5 rfl rfl rfl (src_of_seq (P := Tryz.prog) Tryz.underlying64 ((Rd.own (l := bytesL (mfB i.m)) 2 rfl).seq hs) (bytesL_one _)) (by simp only [bytesL_len, List.length_append, List.length_cons, List.length_nil]; omega) (by simp only [bytesL_len, List.length_append, List.length_cons, List.length_nil]; omega) ?_
    clear hs
    intro a51 c51 w hs
    simp only [List.set_cons_succ, List.set_cons_zero] at hs
    have e9 : vputL V.length ++ (ks.take k).flatMap (itAt V) ++ [UInt8.ofNat i.st.toNat] ++ vputL (mfB i.m).length ++ mfB i.m = vputL V.length ++ (ks.take (k + 1)).flatMap (itAt V) := by rw [hnx]; simp only [List.append_assoc]
    have e8 : bytesL (vputL V.length ++ (ks.take k).flatMap (itAt V) ++ [UInt8.ofNat i.st.toNat] ++ vputL (mfB i.m).length) ++ bytesL (mfB i.m) = bytesL (vputL V.length ++ (ks.take (k + 1)).flatMap (itAt V)) := by rw [← e9]; exact (bytesL_app _ _).symm
    have e7 : (bytesL (vputL V.length ++ (ks.take k).flatMap (itAt V) ++ [UInt8.ofNat i.st.toNat] ++ vputL (mfB i.m).length)).length + (bytesL (mfB i.m)).length = (vputL V.length ++ (ks.take (k + 1)).flatMap (itAt V)).length := by rw [← e9]; simp only [bytesL_len, List.length_append]
    rw [e7] at hs ⊢
    rw [e8] at hs
    refine lw_val rfl (run_assign (v := .slice _ _ _) rfl) ?_
    refine lw_nil ?_
    refine cw_region ?_
    refine lw_val rfl (run_add64 rfl rfl rfl (inI (by omega) (by omega))) ?_
    refine lw_val rfl (run_move (v := .int .i64 _) rfl) ?_
    refine lw_nil ?_
    exact ⟨(k + 1, (a51, c51)), by simp only; omega, ⟨by simp only; omega, hs.arr [0, 5, 6, 7, 8] 9 (by decide)⟩, ⟨rfl, rfl, trivial⟩, by repeat (first | exact Out.mix _ _ _ | refine Out.updo rfl ?_ | refine Out.upd rfl ?_ | refine Out.mixIn rfl ?_)⟩
  · intro h24
    have g24 := of_decide_eq_false h24
    have hke2 : k = ks.length := by omega
    rw [hke2, List.take_length] at hs ⊢
    have e9 : vputL V.length ++ ks.flatMap (itAt V) = vwBody V := by rw [hks]; rfl
    rw [e9] at hs ⊢
    refine cw_exit rfl ?_
    refine cw_seq ?_
    refine cw_region ?_
    refine lw_val rfl (run_move (v := .slice _ _ _) rfl) ?_
    refine lw_call rfl en114 (seal_sl hs (l := vwBody V) (hs.rdOwn 0 rfl) rfl (by omega)) ?_
    clear hs
    rintro _ w ⟨a54, c54, rfl, hs⟩
    refine lw_val rfl (run_assign (v := .slice _ _ _) rfl) ?_
    refine lw_nil ?_
    refine cw_ret ?_
    refine res1 (v := .slice _ _ _) rfl rfl ?_
    exact ⟨_, rfl, a54, c54, rfl, Mem.closeV1 ho (hs.arr [0, 3, 4, 5] 6 (by decide))⟩
end Go.Proofs.YtkogkokmcmallaaGreatDoor
