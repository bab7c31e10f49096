/- HasPrefix; the store's List, the client's List, over chunks. -/
import Derived.Test.YtkogkokmcmallaaGreatDoorNm
import Derived.Test.YtkogkokmcmallaaGreatDoorC4
namespace Go.Proofs.YtkogkokmcmallaaGreatDoor
set_option linter.all false
open Go.RowKit
attribute [local irreducible] errV
variable {g w : World} {L M : List HP} {ad : Nat → Addr} {p q : Nat} {st : St}

/-- Does n begin with p? -/
def preB (p n : ByteArray) : Bool := decide (p.size ≤ n.size) && decide (n.extract 0 p.size = p)
theorem hasPreL_sl (hs : Mem g w L) (n p : ByteArray) : Calls Tryz.prog 223 #[.string n, .string p] w (Ret fun v w' => v = .bool (preB p n) ∧ Mem g w' L) := by
  refine calls_cw Tryz.func223 rfl rfl ?_
  skip
  refine cw_seq ?_
  refine cw_region ?_
  refine lw_val rfl (run_assign (v := .bool _) rfl) ?_
  refine lw_nil ?_
  refine cw_seq ?_
  refine cw_region ?_
  refine lw_val rfl (run_move (v := .string _) rfl) ?_
  refine lw_val rfl (run_lenT Tryz.underlying9 rfl) ?_
  refine lw_val rfl (run_move (v := .string _) rfl) ?_
  refine lw_val rfl (run_lenT Tryz.underlying9 rfl) ?_
  refine lw_val rfl (run_geq rfl rfl) ?_
  refine lw_val rfl (run_move (v := .bool _) rfl) ?_
  refine lw_split (t := _) (d := 10) rfl ?_ ?_
  · intro h9
    have g9 := of_decide_eq_true h9
    refine lw_on rfl rfl h9 ?_
    refine lw_val rfl (run_move (v := .string _) rfl) ?_
    refine lw_on rfl rfl h9 ?_
    refine lw_val rfl (run_move (v := .string _) rfl) ?_
    refine lw_on rfl rfl h9 ?_
    refine lw_val rfl (run_lenT Tryz.underlying9 rfl) ?_
    refine lw_on rfl rfl h9 ?_
    refine lw_val rfl (run_strTo Tryz.underlying9 rfl rfl rfl (by omega)) ?_
    refine lw_on rfl rfl h9 ?_
    refine lw_val rfl (run_move (v := .string _) rfl) ?_
    refine lw_on rfl rfl h9 ?_
    refine lw_val rfl (run_eqs rfl rfl) ?_
    refine lw_val rfl (run_pickT (v := .bool _) rfl h9 rfl) ?_
    refine lw_val rfl (run_assign (v := .bool _) rfl) ?_
    refine lw_nil ?_
    refine cw_ret ?_
    refine res1 (v := .bool _) rfl rfl ?_
    exact ⟨_, rfl, ret_b (by unfold preB; rw [decide_eq_true (show p.size ≤ n.size by omega), Bool.true_and]), hs⟩
  · intro h9
    have g9 := of_decide_eq_false h9
    refine lw_off rfl rfl rfl h9 ?_
    refine lw_off rfl rfl rfl h9 ?_
    refine lw_off rfl rfl rfl h9 ?_
    refine lw_off rfl rfl rfl h9 ?_
    refine lw_off rfl rfl rfl h9 ?_
    refine lw_off rfl rfl rfl h9 ?_
    refine lw_val rfl (run_pickF (v := .bool _) rfl h9 rfl) ?_
    refine lw_val rfl (run_assign (v := .bool _) rfl) ?_
    refine lw_nil ?_
    refine cw_ret ?_
    refine res1 (v := .bool _) rfl rfl ?_
    exact ⟨_, rfl, ret_b (by unfold preB; rw [decide_eq_false (show ¬ p.size ≤ n.size by omega), Bool.false_and]), hs⟩
theorem hasPre_sl (hs : Mem g w L) (n p : ByteArray) : Calls Tryz.prog 157 #[.string n, .string p] w (Ret fun v w' => v = .bool (preB p n) ∧ Mem g w' L) := by
  refine calls_cw Tryz.func157 rfl rfl ?_
  skip
  refine cw_seq ?_
  refine cw_region ?_
  refine lw_val rfl (run_assign (v := .bool _) rfl) ?_
  refine lw_nil ?_
  refine cw_seq ?_
  refine cw_region ?_
  refine lw_val rfl (run_move (v := .string _) rfl) ?_
  refine lw_val rfl (run_move (v := .string _) rfl) ?_
  refine lw_call rfl en223 (hasPreL_sl hs n p) ?_
  clear hs
  rintro _ w ⟨rfl, hs⟩
  refine lw_val rfl (run_assign (v := .bool _) rfl) ?_
  refine lw_nil ?_
  refine cw_ret ?_
  refine res1 (v := .bool _) rfl rfl ?_
  exact ⟨_, rfl, rfl, hs⟩
/-! ### the store's List -/
def St.named (st : St) : Prop := (∀ x ∈ keysOf st.objs, x.size ≤ 1000000) ∧ st.objs.length ≤ 1000000
def St.list1 (pre : ByteArray) (st : St) : List ByteArray := (sortT (keysOf st.objs)).filter (preB pre)
theorem sortT_len (l : List ByteArray) : (sortT l).length = l.length := by simp [sortT, sortB, bytesOf]
theorem listC_sl (hE : ErrG ad g) (hnm : st.named) {ob fb sb : Nat} {pre : ByteArray} (hs : Mem g w (StoreC p st :: cells ob [.slice none 0 0] 48 :: cells fb [.string pre] 9 :: cells sb [.pointer (some ⟨p, 0, none⟩)] 26 :: M)) :
    Calls Tryz.prog 156 #[.pointer (some ⟨sb, 0, none⟩), .pointer (some ⟨fb, 0, none⟩), .pointer (some ⟨ob, 0, none⟩)] w
      (Ret fun v w' => ∃ a c, v = errV ad 0 ∧ Mem g w' (own (.slice a (st.list1 pre).length c) (textsL (st.list1 pre)) :: StoreC p st :: cells ob [.slice a (st.list1 pre).length c] 48 :: cells fb [.string pre] 9 :: cells sb [.pointer (some ⟨p, 0, none⟩)] 26 :: M)) := by
  have hlen := sortT_len (keysOf st.objs)
  have hkl : (keysOf st.objs).length = st.objs.length := by simp [keysOf]
  have hnl := hnm.2
  obtain ⟨ks, hks⟩ : ∃ ks, sortT (keysOf st.objs) = ks := ⟨_, rfl⟩
  unfold St.list1
  rw [hks] at hlen ⊢
  refine calls_cw Tryz.func156 rfl rfl ?_
  skip
  refine cw_seq ?_
  refine cw_region ?_
  refine lw_val rfl (run_assign (v := .nilIface) rfl) ?_
  refine lw_nil ?_
  refine cw_seq ?_
  refine cw_seq ?_
  refine cw_region ?_
  refine lw_val rfl (run_load Tryz.underlying26 rfl rfl (hs.cellAt 3 rfl rfl)) ?_
  refine lw_call rfl en19 (names_sl hs hnm.1 hnm.2) ?_
  clear hs
  rintro _ w ⟨a7, c7, rfl, hs⟩
  rw [hks] at hs ⊢
  refine lw_val rfl (run_lenS Tryz.underlying48 rfl) ?_
  refine lw_val rfl (run_move (v := .int .i64 _) rfl) ?_
  refine lw_nil ?_
  refine cw_block ?_
  refine cw_loop (X := Nat × Option Addr × Nat) [5, 9, 10, 11, 12, 13, 14, 15, 16, 17, 18, 19, 20] (fun x => [(9, .int .i64 (x.1 : Nat))]) (fun x w => x.1 ≤ ks.length ∧ Mem g w (own (.slice x.2.1 ((ks.take x.1).filter (preB pre)).length x.2.2) (textsL ((ks.take x.1).filter (preB pre))) :: own (.slice a7 ks.length c7) (textsL ks) :: StoreC p st :: cells ob [.slice x.2.1 ((ks.take x.1).filter (preB pre)).length x.2.2] 48 :: cells fb [.string pre] 9 :: cells sb [.pointer (some ⟨p, 0, none⟩)] 26 :: M)) (fun x => ks.length - x.1) ((0, none, 0)) ?_ ?_ ?_
  · exact ⟨rfl, trivial⟩
  · exact ⟨Nat.zero_le _, hs.addE (own_nil _)⟩
  clear hs
  rintro x ξ w hI
  obtain ⟨k, a, c⟩ := x
  obtain ⟨hk, hs⟩ := hI
  simp only at hk hs
  refine cw_seq ?_
  refine cw_region ?_
  refine lw_val rfl (run_lss rfl rfl) ?_
  refine lw_nil ?_
  refine cw_seq ?_
  refine cw_if rfl ?_ ?_
  · intro h10
    have g10 := of_decide_eq_true h10
    simp only at g10
    obtain ⟨nm, hnx⟩ : ∃ nm, ks[k]? = some nm := ⟨ks[k]'(by omega), List.getElem?_eq_getElem _⟩
    obtain ⟨b1, o1, rfl, _⟩ := (Rd.own (g := g) (L := own (.slice a ((ks.take k).filter (preB pre)).length c) (textsL ((ks.take k).filter (preB pre))) :: own (.slice a7 ks.length c7) (textsL ks) :: StoreC p st :: cells ob [.slice a ((ks.take k).filter (preB pre)).length c] 48 :: cells fb [.string pre] 9 :: cells sb [.pointer (some ⟨p, 0, none⟩)] 26 :: M) 1 rfl).cells' hs (by rw [textsL_len]; omega)
    refine cw_skip ?_
    refine cw_seq ?_
    refine cw_block ?_
    refine cw_seq ?_
    refine cw_region ?_
    refine lw_val rfl (run_indexAddr Tryz.underlying48 sz9 rfl rfl rfl (by omega) rfl) ?_
    refine lw_val rfl (run_load Tryz.underlying9 rfl rfl (hs.ownAt 1 rfl (textsL_at hnx))) ?_
    refine lw_val rfl (run_assign (v := .string _) rfl) ?_
    refine lw_nil ?_
    refine cw_seq ?_
    refine cw_region ?_
    refine lw_val rfl (run_move (v := .string _) rfl) ?_
    refine lw_val rfl (run_load Tryz.underlying9 rfl rfl (hs.cellAt 4 rfl rfl)) ?_
    refine lw_call rfl en157 (hasPre_sl hs _ _) ?_
    clear hs
    rintro _ w ⟨rfl, hs⟩
    refine lw_nil ?_
    refine cw_if rfl ?_ ?_
    · intro h15
      have e1 : (ks.take (k + 1)).filter (preB pre) = (ks.take k).filter (preB pre) ++ [nm] := by rw [List.take_add_one, hnx, List.filter_append]; simp [h15]
      have hfl : ((ks.take k).filter (preB pre)).length ≤ k := Nat.le_trans (List.length_filter_le _ _) (by simp; omega)
      refine cw_region ?_
      refine lw_val rfl (run_load Tryz.underlying48 rfl rfl (hs.cellAt 3 rfl rfl)) ?_
      refine lw_val rfl (run_move (v := .string _) rfl) ?_
      refine lw_buildSlice hs rfl ((textsL [nm])) Tryz.underlying48 zs9 rfl (cells_one (textsL_one _)) rfl rfl rfl ?_
      clear hs
      intro b18 w hs
      try simp only [List.set_cons_succ, List.set_cons_zero] at hs
      refine lw_append hs rfl 1 rfl Tryz.underlying48 in9 rfl rfl rfl (src_of_seq (P := Tryz.prog) Tryz.underlying48 ((Rd.cells (n := 1) (cs := textsL [nm]) 0 rfl rfl).seq hs) (textsL_one [nm])) (by simp only [textsL_len, List.length_cons, List.length_nil]; omega) (by simp only [textsL_len, List.length_cons, List.length_nil]; omega) ?_
      clear hs
      intro a19 c19 w hs
      simp only [List.set_cons_succ, List.set_cons_zero] at hs
      refine lw_store (v := .slice _ _ _) hs 4 rfl sz48 rfl rfl rfl rfl ?_
      clear hs
      intro w hs
      try simp only [List.set_cons_succ, List.set_cons_zero] at hs
      refine lw_nil ?_
      refine cw_region ?_
      refine lw_val rfl (run_add64 rfl rfl rfl (inI (by omega) (by omega))) ?_
      refine lw_val rfl (run_move (v := .int .i64 _) rfl) ?_
      refine lw_nil ?_
      exact ⟨(k + 1, a19, c19), by simp only; omega, ⟨by simp only; omega, by simp only [e1, textsL_app, List.length_append]; simpa only [textsL_len] using hs.tail⟩, ⟨rfl, trivial⟩, by repeat (first | exact Out.mix _ _ _ | refine Out.updo rfl ?_ | refine Out.upd rfl ?_ | refine Out.mixIn rfl ?_)⟩
    · intro h15
      have e1 : (ks.take (k + 1)).filter (preB pre) = (ks.take k).filter (preB pre) := by rw [List.take_add_one, hnx, List.filter_append]; simp [h15]
      refine cw_skip ?_
      refine cw_region ?_
      refine lw_val rfl (run_add64 rfl rfl rfl (inI (by omega) (by omega))) ?_
      refine lw_val rfl (run_move (v := .int .i64 _) rfl) ?_
      refine lw_nil ?_
      exact ⟨(k + 1, a, c), by simp only; omega, ⟨by simp only; omega, by simp only [e1]; exact hs⟩, ⟨rfl, trivial⟩, by repeat (first | exact Out.mix _ _ _ | refine Out.updo rfl ?_ | refine Out.upd rfl ?_ | refine Out.mixIn rfl ?_)⟩
  · intro h10
    have g10 := of_decide_eq_false h10
    refine cw_exit rfl ?_
    refine cw_seq ?_
    refine cw_region ?_
    refine lw_val rfl (run_assign (v := .nilIface) rfl) ?_
    refine lw_nil ?_
    refine cw_ret ?_
    refine res1 (v := .nilIface) rfl rfl ?_
    have e1 : k = ks.length := by (have := g10; simp only at this; omega)
    rw [e1, List.take_length] at hs
    exact ⟨_, rfl, a, c, (errV_zero ad).symm, hs.arr [0, 2, 3] 4 (by decide)⟩
def St.listR (pre : ByteArray) (st : St) : List ByteArray × Nat × St := if st.next = 1 ∨ st.next = 2 then ([], 111, st.begin) else (st.list1 pre, 0, st.begin)
theorem list_sl (hE : ErrG ad g) (hnm : st.named) (hs : Mem g w (StoreC p st :: M)) (hcl : st.calls < 4611686018427387904) (hfl : st.failed < 4611686018427387904) (pre : ByteArray) {out : List ByteArray} {k : Nat} {st2 : St} (hk : st.listR pre = (out, k, st2)) :
    Calls Tryz.prog 49 #[.pointer (some ⟨p, 0, none⟩), .string pre] w
      (Ret fun v w' => ∃ a c, v = .tuple #[.slice a out.length c, errV ad k] ∧ Mem g w' (own (.slice a out.length c) (textsL out) :: StoreC p st2 :: M)) := by
  have hbn : st.begin.named := hnm
  have hbl : st.begin.list1 pre = st.list1 pre := rfl
  have k1 : (st.listR pre).1 = out := by rw [hk]
  have k2 : (st.listR pre).2.1 = k := by rw [hk]
  have k3 : (st.listR pre).2.2 = st2 := by rw [hk]
  subst k1 k2 k3
  refine calls_cw Tryz.func49 rfl rfl ?_
  skip
  refine cw_seq ?_
  refine cw_region ?_
  refine lw_box (v := .pointer (some _)) hs rfl rfl ?_
  clear hs
  intro b2 w hs
  try simp only [List.set_cons_succ, List.set_cons_zero] at hs
  refine lw_box (v := .string _) hs rfl rfl ?_
  clear hs
  intro b3 w hs
  try simp only [List.set_cons_succ, List.set_cons_zero] at hs
  refine lw_val rfl (run_assign (v := .slice _ _ _) rfl) ?_
  refine lw_val rfl (run_assign (v := .nilIface) rfl) ?_
  refine lw_nil ?_
  refine cw_seq ?_
  refine cw_region ?_
  refine lw_alloc hs rfl ze48 ?_
  clear hs
  intro b6 w hs
  try simp only [List.set_cons_succ, List.set_cons_zero] at hs
  refine lw_nil ?_
  refine cw_seq ?_
  replace hs := hs.pick 3 rfl
  simp only [List.eraseIdx_cons_succ, List.eraseIdx_cons_zero] at hs
  refine cw_region ?_
  refine lw_val rfl (run_load Tryz.underlying26 rfl rfl (hs.cellAt 3 rfl rfl)) ?_
  refine lw_val rfl (run_makeFunc) ?_
  refine lw_call rfl en91 (call_sl (R := fun c w' => ∃ out a k, (c = 0 → (out, c, st.begin) = st.listR pre) ∧ (c ≠ 0 → ([], c, st.begin) = st.listR pre) ∧ Mem g w' (own (.slice a out.length k) (textsL out) :: StoreC p st.begin :: cells b6 [.slice a out.length k] 48 :: M)) (cap := #[.pointer (some ⟨b2, 0, none⟩), .pointer (some ⟨b3, 0, none⟩), .pointer (some ⟨b6, 0, none⟩)]) hE hs hcl hfl en156 (fun h1 w1 hs => ⟨[], none, 0, (fun h => by cases h), fun _ => by simp [St.listR, h1], (hs.arr [0, 1] 4 (by decide)).addE (own_nil _)⟩) (fun h1 w1 hs => (listC_sl hE hbn hs).mono (by rintro e w2 ⟨v, rfl, a, c, rfl, hs⟩; refine ⟨_, rfl, _, rfl, hs.nil, st.list1 pre, a, c, ?_, ?_, hs.arr [0, 1, 2] 5 (by decide)⟩ <;> (by_cases h2 : st.next = 2 <;> simp [St.listR, h1, h2])))) ?_
  clear hs
  rintro _ w ⟨c10, rfl, out, a10, k10, h0, h1, hs⟩
  refine lw_val rfl (run_assign (v := errV ad _) rfl) ?_
  refine lw_nil ?_
  refine cw_seq ?_
  refine cw_seq ?_
  refine cw_region ?_
  refine lw_val rfl (run_move (v := errV ad _) rfl) ?_
  refine lw_val rfl (run_neerrn (ad := ad) rfl) ?_
  refine lw_nil ?_
  refine cw_if rfl ?_ ?_
  · intro h12
    have g12 := ne_t h12
    refine cw_seq ?_
    refine cw_region ?_
    refine lw_val rfl (run_move (v := errV ad _) rfl) ?_
    refine lw_val rfl (run_assign (v := .slice _ _ _) rfl) ?_
    refine lw_val rfl (run_assign (v := errV ad _) rfl) ?_
    refine lw_nil ?_
    refine cw_ret ?_
    refine res2 (v := .slice _ _ _) (v2 := errV ad _) rfl rfl rfl ?_
    rw [← h1 g12]
    exact ⟨_, rfl, none, 0, rfl, (hs.arr [1] 3 (by decide)).addE (own_nil _)⟩
  · intro h12
    have g12 := ne_f h12
    refine cw_skip ?_
    refine cw_seq ?_
    refine cw_region ?_
    refine lw_val rfl (run_load Tryz.underlying48 rfl rfl (hs.cellAt 2 rfl rfl)) ?_
    refine lw_val rfl (run_assign (v := .slice _ _ _) rfl) ?_
    refine lw_val rfl (run_assign (v := .nilIface) rfl) ?_
    refine lw_nil ?_
    refine cw_ret ?_
    refine res2 (v := .slice _ _ _) (v2 := .nilIface) rfl rfl rfl ?_
    rw [← h0 g12]
    exact ⟨_, rfl, a10, k10, by rw [g12, errV_zero], hs.arr [0, 1] 3 (by decide)⟩

/-! ### the client's List -/
def outT (ob : Nat) (out : List ByteArray) : HP := ex fun x : Option Addr × Nat => stars [cells ob [.slice x.1 out.length x.2] 48, own (.slice x.1 out.length x.2) (textsL out)]
theorem listR_st (n : ByteArray) (st : St) : (st.listR n).2.2 = st.begin := by unfold St.listR; split <;> rfl
theorem listR_code (n : ByteArray) (st : St) : (st.listR n).2.1 = 0 ∨ (st.listR n).2.1 ∈ coreCodes := by
  unfold St.listR
  split
  · exact .inr m111
  · exact .inl rfl
abbrev listStep (n : ByteArray) (s : St × List ByteArray) : Nat × St × List ByteArray := ((s.1.listR n).2.1, (s.1.listR n).2.2, (s.1.listR n).1)
theorem clListC_sl (hE : ErrG ad g) (hnm : st.named) {t a : Int} {cb nb ob : Nat} {n : ByteArray} {out : List ByteArray} (hcl : st.calls < 4611686018427387904) (hfl : st.failed < 4611686018427387904) (hs : Mem g w (clientC q p t a :: StoreC p st :: outT ob out :: cells nb [.string n] 9 :: cells cb [.pointer (some ⟨q, 0, none⟩)] 28 :: M)) :
    Calls Tryz.prog 172 #[.pointer (some ⟨cb, 0, none⟩), .pointer (some ⟨nb, 0, none⟩), .pointer (some ⟨ob, 0, none⟩)] w
      (Ret fun v w' => v = errV ad (st.listR n).2.1 ∧ Mem g w' (clientC q p t a :: StoreC p (st.listR n).2.2 :: outT ob (st.listR n).1 :: cells nb [.string n] 9 :: cells cb [.pointer (some ⟨q, 0, none⟩)] 28 :: M)) := by
  obtain ⟨x0, hs⟩ := (hs.pick 2 rfl).unex
  replace hs : Mem g w (cells ob [.slice x0.1 out.length x0.2] 48 :: own (.slice x0.1 out.length x0.2) (textsL out) :: clientC q p t a :: StoreC p st :: cells nb [.string n] 9 :: cells cb [.pointer (some ⟨q, 0, none⟩)] 28 :: M) := hs.unstars
  replace hs := hs.drop 1
  refine calls_cw Tryz.func172 rfl rfl ?_
  skip
  refine cw_seq ?_
  refine cw_region ?_
  refine lw_val rfl (run_assign (v := .nilIface) rfl) ?_
  refine lw_nil ?_
  refine cw_seq ?_
  refine cw_drawS mixes ((hs.tail).drop 1) ?_
  intro w tr hK
  replace hs := tr _ hs
  clear tr
  refine aw_take 0 rfl (by kernel_rfl) (by kernel_rfl) (by kernel_rfl) rfl (fun w hs => run_load Tryz.underlying28 rfl rfl (hs.cellAt 2 rfl rfl)) hK ?_
  refine aw_take 1 rfl (by kernel_rfl) (by kernel_rfl) (by kernel_rfl) rfl (fun w hs => run_nilCheckP rfl) hK ?_
  refine aw_take 2 rfl (by kernel_rfl) (by kernel_rfl) (by kernel_rfl) rfl (fun w hs => run_fieldAddr (o' := 0) Tryz.underlying137 rfl sz26 rfl rfl rfl) hK ?_
  refine aw_take 3 rfl (by kernel_rfl) (by kernel_rfl) (by kernel_rfl) rfl (fun w hs => run_load Tryz.underlying26 rfl rfl (hs.cellAt 0 rfl rfl)) hK ?_
  refine aw_take 4 rfl (by kernel_rfl) (by kernel_rfl) (by kernel_rfl) rfl (fun w hs => run_load Tryz.underlying9 rfl rfl (hs.cellAt 1 rfl rfl)) hK ?_
  refine aw_ready [5] (by kernel_rfl) (by simp) ?_
  refine ⟨⟨_, rfl, ?_⟩, trivial⟩
  refine lw_call rfl en49 (list_sl hE hnm (hs.pick 2 rfl) hcl hfl n rfl) ?_
  clear hs
  rintro _ w ⟨a10, c10, rfl, hs⟩
  clear hK
  have hK := (hs.tail.tail).tail
  refine lw_nil ⟨hK, ?_⟩
  refine aw_take 6 rfl (by kernel_rfl) (by kernel_rfl) (by kernel_rfl) rfl (fun w hs => run_move (v := .tuple _) rfl) hK ?_
  refine aw_take 7 rfl (by kernel_rfl) (by kernel_rfl) (by kernel_rfl) rfl (fun w hs => run_extract (v := .slice _ _ _) rfl rfl) hK ?_
  refine aw_take 8 rfl (by kernel_rfl) (by kernel_rfl) (by kernel_rfl) rfl (fun w hs => run_extract (v := errV ad _) rfl rfl) hK ?_
  refine aw_ready [9] (by kernel_rfl) (by simp) ?_
  refine ⟨⟨_, rfl, ?_⟩, trivial⟩
  refine lw_store (v := .slice _ _ _) hs 2 rfl sz48 rfl rfl rfl rfl ?_
  clear hs
  intro w hs
  try simp only [List.set_cons_succ, List.set_cons_zero] at hs
  clear hK
  have hK := (hs.tail.tail).tail
  refine lw_nil ⟨hK, ?_⟩
  refine aw_take 10 rfl (by kernel_rfl) (by kernel_rfl) (by kernel_rfl) rfl (fun w hs => run_assign (v := errV ad _) rfl) hK ?_
  refine aw_done (by kernel_rfl) ?_
  clear hK
  refine cw_seq ?_
  refine cw_region ?_
  refine lw_val rfl (run_move (v := errV ad _) rfl) ?_
  refine lw_val rfl (run_assign (v := errV ad _) rfl) ?_
  refine lw_nil ?_
  refine cw_ret ?_
  refine res1 (v := errV ad _) rfl rfl ?_
  have h1 := Mem.stars (M := [cells ob [.slice a10 (st.listR n).1.length c10] 48, own (.slice a10 (st.listR n).1.length c10) (textsL (st.listR n).1)]) (hs.arr [2, 0, 3, 1] 4 (by decide))
  have h2 := Mem.ex (f := fun x : Option Addr × Nat => stars [cells ob [.slice x.1 (st.listR n).1.length x.2] 48, own (.slice x.1 (st.listR n).1.length x.2) (textsL (st.listR n).1)]) (a10, c10) h1
  exact ⟨_, rfl, rfl, h2.arr [1, 2, 0] 3 (by decide)⟩
theorem clList_sl (hE : ErrG ad g) (hnm : st.named) {t : Nat} {a : Int} (ha : 0 ≤ a ∧ a < 1000000000000) (ht : t ≤ 8) (hs : Mem g w (clientC q p t a :: StoreC p st :: M)) (hcl : st.calls + 8 < 4611686018427387904) (hfl : st.failed + 8 < 4611686018427387904)
    {nm : ByteArray} {lost : Bool} {x n : Nat} {st2 : St} {out : List ByteArray} (hk : againR (listStep nm) t (st, []) = (lost, x, n, st2, out)) :
    Calls Tryz.prog 71 #[.pointer (some ⟨q, 0, none⟩), .string nm] w
      (Ret fun v w' => ∃ ao co, v = .tuple #[.slice ao out.length co, errV ad x] ∧ Mem g w' (own (.slice ao out.length co) (textsL out) :: clientC q p t (a + (n : Nat)) :: StoreC p st2 :: M)) := by
  refine calls_cw Tryz.func71 rfl rfl ?_
  skip
  refine cw_seq ?_
  refine cw_region ?_
  refine lw_box (v := .pointer (some _)) hs rfl rfl ?_
  clear hs
  intro b2 w hs
  try simp only [List.set_cons_succ, List.set_cons_zero] at hs
  refine lw_box (v := .string _) hs rfl rfl ?_
  clear hs
  intro b3 w hs
  try simp only [List.set_cons_succ, List.set_cons_zero] at hs
  refine lw_val rfl (run_assign (v := .slice _ _ _) rfl) ?_
  refine lw_val rfl (run_assign (v := .nilIface) rfl) ?_
  refine lw_nil ?_
  refine cw_seq ?_
  refine cw_region ?_
  refine lw_alloc hs rfl ze48 ?_
  clear hs
  intro b6 w hs
  try simp only [List.set_cons_succ, List.set_cons_zero] at hs
  refine lw_nil ?_
  refine cw_seq ?_
  have h1 := Mem.stars (M := [cells b6 [.slice none 0 0] 48, own (.slice none 0 0) []]) ((hs.addE (own_nil _)).arr [1, 0, 4, 5, 2, 3] 6 (by decide))
  have h2 := Mem.ex (f := fun x : Option Addr × Nat => stars [cells b6 [.slice x.1 0 x.2] 48, own (.slice x.1 0 x.2) []]) (none, 0) h1
  replace hs : Mem g w (clientC q p t a :: StoreC p st :: outT b6 [] :: cells b3 [.string nm] 9 :: cells b2 [.pointer (some ⟨q, 0, none⟩)] 28 :: M) := h2.arr [1, 2, 0] 3 (by decide)
  clear h1 h2
  refine cw_region ?_
  refine lw_val rfl (run_load Tryz.underlying28 rfl rfl (hs.cellAt 4 rfl rfl)) ?_
  refine lw_val rfl (run_makeFunc) ?_
  refine lw_call rfl en167 (again_sl (cap := #[.pointer (some ⟨b2, 0, none⟩), .pointer (some ⟨b3, 0, none⟩), .pointer (some ⟨b6, 0, none⟩)]) (s := (st, ([] : List ByteArray))) (fun x : St × List ByteArray => StoreC p x.1 :: outT b6 x.2 :: cells b3 [.string nm] 9 :: cells b2 [.pointer (some ⟨q, 0, none⟩)] 28 :: M) (listStep nm) (fun n x => x.1.calls + n < 4611686018427387904 ∧ x.1.failed + n < 4611686018427387904 ∧ x.1.named) hE ha ht hs ⟨by simp only; omega, by simp only; omega, hnm⟩ (fun n s h => by have := begin_counts s.1; simp only [listStep, listR_st]; exact ⟨by omega, by omega, h.2.2⟩) (fun n s _ => listR_code nm s.1) en172 (fun n s a w1 h hs => clListC_sl hE h.2.2 (by omega) (by omega) hs)) ?_
  clear hs
  rintro _ w ⟨rfl, hs⟩
  refine lw_val rfl (run_move (v := .tuple _) rfl) ?_
  refine lw_val rfl (run_extract (v := .bool _) rfl rfl) ?_
  refine lw_val rfl (run_extract (v := errV ad _) rfl rfl) ?_
  refine lw_val rfl (run_assign (v := .bool _) rfl) ?_
  refine lw_val rfl (run_assign (v := errV ad _) rfl) ?_
  refine lw_nil ?_
  rw [hk] at hs
  obtain ⟨x1, hs⟩ := (hs.pick 2 rfl).unex
  replace hs : Mem g w (cells b6 [.slice x1.1 out.length x1.2] 48 :: own (.slice x1.1 out.length x1.2) (textsL out) :: clientC q p t (a + (n : Nat)) :: StoreC p st2 :: cells b3 [.string nm] 9 :: cells b2 [.pointer (some ⟨q, 0, none⟩)] 28 :: M) := hs.unstars
  refine cw_seq ?_
  refine cw_region ?_
  refine lw_val rfl (run_load Tryz.underlying48 rfl rfl (hs.cellAt 0 rfl rfl)) ?_
  refine lw_val rfl (run_move (v := errV ad _) rfl) ?_
  refine lw_val rfl (run_assign (v := .slice _ _ _) rfl) ?_
  refine lw_val rfl (run_assign (v := errV ad _) rfl) ?_
  refine lw_nil ?_
  refine cw_ret ?_
  refine res2 (v := .slice _ _ _) (v2 := errV ad _) rfl rfl rfl ?_
  exact ⟨_, rfl, x1.1, x1.2, by rw [hk], hs.arr [1, 2, 3] 6 (by decide)⟩
end Go.Proofs.YtkogkokmcmallaaGreatDoor
