/- The client, over chunks: Get. -/
import Derived.Test.YtkogkokmcmallaaGreatDoorC3
namespace Go.Proofs.YtkogkokmcmallaaGreatDoor
set_option linter.all false
open Go.RowKit
attribute [local irreducible] errV
variable {g w : World} {L M : List HP} {ad : Nat → Addr} {p q : Nat} {st : St}

/-- The cell that Get's closure writes, and the bytes that it holds. -/
def outC (ob : Nat) (out : List UInt8) : HP := ex fun x : Option Addr × Nat => stars [cells ob [.slice x.1 out.length x.2] 64, own (.slice x.1 out.length x.2) (bytesL out)]
theorem getR_st (n : ByteArray) (off m : Int) (st : St) : (st.getR n off m).2.2 = st.begin := by unfold St.getR; split <;> rfl
theorem getR_code (n : ByteArray) (off m : Int) (st : St) : (st.getR n off m).2.1 = 0 ∨ (st.getR n off m).2.1 ∈ coreCodes := by
  unfold St.getR St.get1
  split
  · exact .inr m111
  · cases aget st.begin.objs n with
    | none => exact .inr m107
    | some b =>
      simp only
      split
      · exact .inr m105
      · exact .inl rfl
abbrev getStep (n : ByteArray) (off m : Int) (s : St × List UInt8) : Nat × St × List UInt8 := ((s.1.getR n off m).2.1, (s.1.getR n off m).2.2, (s.1.getR n off m).1)
theorem clGetC_sl (hE : ErrG ad g) (hsm : st.small) {t a : Int} {cb nb fb mb ob : Nat} {n : ByteArray} {off m : Int} (hoff : InI64 off) (hm : InI64 m) {out : List UInt8} (hcl : st.calls < 4611686018427387904) (hfl : st.failed < 4611686018427387904) (hs : Mem g w (clientC q p t a :: StoreC p st :: outC ob out :: cells mb [.int .i64 m] 3 :: cells fb [.int .i64 off] 3 :: cells nb [.string n] 9 :: cells cb [.pointer (some ⟨q, 0, none⟩)] 28 :: M)) :
    Calls Tryz.prog 170 #[.pointer (some ⟨cb, 0, none⟩), .pointer (some ⟨nb, 0, none⟩), .pointer (some ⟨fb, 0, none⟩), .pointer (some ⟨mb, 0, none⟩), .pointer (some ⟨ob, 0, none⟩)] w
      (Ret fun v w' => v = errV ad (st.getR n off m).2.1 ∧ Mem g w' (clientC q p t a :: StoreC p (st.getR n off m).2.2 :: outC ob (st.getR n off m).1 :: cells mb [.int .i64 m] 3 :: cells fb [.int .i64 off] 3 :: cells nb [.string n] 9 :: cells cb [.pointer (some ⟨q, 0, none⟩)] 28 :: M)) := by
  obtain ⟨x0, hs⟩ := (hs.pick 2 rfl).unex
  replace hs : Mem g w (cells ob [.slice x0.1 out.length x0.2] 64 :: own (.slice x0.1 out.length x0.2) (bytesL out) :: clientC q p t a :: StoreC p st :: cells mb [.int .i64 m] 3 :: cells fb [.int .i64 off] 3 :: cells nb [.string n] 9 :: cells cb [.pointer (some ⟨q, 0, none⟩)] 28 :: M) := hs.unstars
  replace hs := hs.drop 1
  refine calls_cw Tryz.func170 rfl rfl ?_
  skip
  refine cw_seq ?_
  refine cw_region ?_
  refine lw_val rfl (run_assign (v := .nilIface) rfl) ?_
  refine lw_nil ?_
  refine cw_seq ?_
  refine cw_drawS mixes ((hs.tail).drop 1) ?_
  intro w tr hK
  replace hs := tr _ hs
  clear tr
  refine aw_take 0 rfl (by kernel_rfl) (by kernel_rfl) (by kernel_rfl) rfl (fun w hs => run_load Tryz.underlying28 rfl rfl (hs.cellAt 4 rfl rfl)) hK ?_
  refine aw_take 1 rfl (by kernel_rfl) (by kernel_rfl) (by kernel_rfl) rfl (fun w hs => run_nilCheckP rfl) hK ?_
  refine aw_take 2 rfl (by kernel_rfl) (by kernel_rfl) (by kernel_rfl) rfl (fun w hs => run_fieldAddr (o' := 0) Tryz.underlying137 rfl sz26 rfl rfl rfl) hK ?_
  refine aw_take 3 rfl (by kernel_rfl) (by kernel_rfl) (by kernel_rfl) rfl (fun w hs => run_load Tryz.underlying26 rfl rfl (hs.cellAt 0 rfl rfl)) hK ?_
  refine aw_take 4 rfl (by kernel_rfl) (by kernel_rfl) (by kernel_rfl) rfl (fun w hs => run_load Tryz.underlying9 rfl rfl (hs.cellAt 3 rfl rfl)) hK ?_
  refine aw_take 5 rfl (by kernel_rfl) (by kernel_rfl) (by kernel_rfl) rfl (fun w hs => run_load Tryz.underlying3 rfl rfl (hs.cellAt 2 rfl rfl)) hK ?_
  refine aw_take 6 rfl (by kernel_rfl) (by kernel_rfl) (by kernel_rfl) rfl (fun w hs => run_load Tryz.underlying3 rfl rfl (hs.cellAt 1 rfl rfl)) hK ?_
  refine aw_ready [7] (by kernel_rfl) (by simp) ?_
  refine ⟨⟨_, rfl, ?_⟩, trivial⟩
  refine lw_call rfl en45 (get_sl hE hsm (hs.pick 2 rfl) hcl hfl n hoff hm rfl) ?_
  clear hs
  rintro _ w ⟨a14, c14, rfl, hs⟩
  clear hK
  have hK := (hs.tail.tail).tail
  refine lw_nil ⟨hK, ?_⟩
  refine aw_take 8 rfl (by kernel_rfl) (by kernel_rfl) (by kernel_rfl) rfl (fun w hs => run_move (v := .tuple _) rfl) hK ?_
  refine aw_take 9 rfl (by kernel_rfl) (by kernel_rfl) (by kernel_rfl) rfl (fun w hs => run_extract (v := .slice _ _ _) rfl rfl) hK ?_
  refine aw_take 10 rfl (by kernel_rfl) (by kernel_rfl) (by kernel_rfl) rfl (fun w hs => run_extract (v := errV ad _) rfl rfl) hK ?_
  refine aw_ready [11] (by kernel_rfl) (by simp) ?_
  refine ⟨⟨_, rfl, ?_⟩, trivial⟩
  refine lw_store (v := .slice _ _ _) hs 2 rfl sz64 rfl rfl rfl rfl ?_
  clear hs
  intro w hs
  try simp only [List.set_cons_succ, List.set_cons_zero] at hs
  clear hK
  have hK := (hs.tail.tail).tail
  refine lw_nil ⟨hK, ?_⟩
  refine aw_take 12 rfl (by kernel_rfl) (by kernel_rfl) (by kernel_rfl) rfl (fun w hs => run_assign (v := errV ad _) rfl) hK ?_
  refine aw_done (by kernel_rfl) ?_
  clear hK
  refine cw_seq ?_
  refine cw_region ?_
  refine lw_val rfl (run_move (v := errV ad _) rfl) ?_
  refine lw_val rfl (run_assign (v := errV ad _) rfl) ?_
  refine lw_nil ?_
  refine cw_ret ?_
  refine res1 (v := errV ad _) rfl rfl ?_
  have h1 := Mem.stars (M := [cells ob [.slice a14 (st.getR n off m).1.length c14] 64, own (.slice a14 (st.getR n off m).1.length c14) (bytesL (st.getR n off m).1)]) (hs.arr [2, 0, 3, 1] 4 (by decide))
  have h2 := Mem.ex (f := fun x : Option Addr × Nat => stars [cells ob [.slice x.1 (st.getR n off m).1.length x.2] 64, own (.slice x.1 (st.getR n off m).1.length x.2) (bytesL (st.getR n off m).1)]) (a14, c14) h1
  exact ⟨_, rfl, rfl, h2.arr [1, 2, 0] 3 (by decide)⟩
theorem clGet_sl (hE : ErrG ad g) (hsm : st.small) {t : Nat} {a : Int} (ha : 0 ≤ a ∧ a < 1000000000000) (ht : t ≤ 8) (hs : Mem g w (clientC q p t a :: StoreC p st :: M)) (hcl : st.calls + 8 < 4611686018427387904) (hfl : st.failed + 8 < 4611686018427387904)
    {nm : ByteArray} {off m : Int} (hoff : InI64 off) (hm : InI64 m) {lost : Bool} {x n : Nat} {st2 : St} {out : List UInt8} (hk : againR (getStep nm off m) t (st, []) = (lost, x, n, st2, out)) :
    Calls Tryz.prog 67 #[.pointer (some ⟨q, 0, none⟩), .string nm, .int .i64 off, .int .i64 m] w
      (Ret fun v w' => ∃ ao co, v = .tuple #[.slice ao out.length co, errV ad x] ∧ Mem g w' (own (.slice ao out.length co) (bytesL out) :: clientC q p t (a + (n : Nat)) :: StoreC p st2 :: M)) := by
  refine calls_cw Tryz.func67 rfl rfl ?_
  skip
  refine cw_seq ?_
  refine cw_region ?_
  refine lw_box (v := .pointer (some _)) hs rfl rfl ?_
  clear hs
  intro b4 w hs
  try simp only [List.set_cons_succ, List.set_cons_zero] at hs
  refine lw_box (v := .string _) hs rfl rfl ?_
  clear hs
  intro b5 w hs
  try simp only [List.set_cons_succ, List.set_cons_zero] at hs
  refine lw_box (v := .int .i64 _) hs rfl rfl ?_
  clear hs
  intro b6 w hs
  try simp only [List.set_cons_succ, List.set_cons_zero] at hs
  refine lw_box (v := .int .i64 _) hs rfl rfl ?_
  clear hs
  intro b7 w hs
  try simp only [List.set_cons_succ, List.set_cons_zero] at hs
  refine lw_val rfl (run_assign (v := .slice _ _ _) rfl) ?_
  refine lw_val rfl (run_assign (v := .nilIface) rfl) ?_
  refine lw_nil ?_
  refine cw_seq ?_
  refine cw_region ?_
  refine lw_alloc hs rfl ze64 ?_
  clear hs
  intro b10 w hs
  try simp only [List.set_cons_succ, List.set_cons_zero] at hs
  refine lw_nil ?_
  refine cw_seq ?_
  have h1 := Mem.stars (M := [cells b10 [.slice none 0 0] 64, own (.slice none 0 0) []]) ((hs.addE (own_nil _)).arr [1, 0, 6, 7, 2, 3, 4, 5] 8 (by decide))
  have h2 := Mem.ex (f := fun x : Option Addr × Nat => stars [cells b10 [.slice x.1 0 x.2] 64, own (.slice x.1 0 x.2) []]) (none, 0) h1
  replace hs : Mem g w (clientC q p t a :: StoreC p st :: outC b10 [] :: cells b7 [.int .i64 m] 3 :: cells b6 [.int .i64 off] 3 :: cells b5 [.string nm] 9 :: cells b4 [.pointer (some ⟨q, 0, none⟩)] 28 :: M) := h2.arr [1, 2, 0] 3 (by decide)
  clear h1 h2
  refine cw_region ?_
  refine lw_val rfl (run_load Tryz.underlying28 rfl rfl (hs.cellAt 6 rfl rfl)) ?_
  refine lw_val rfl (run_makeFunc) ?_
  refine lw_call rfl en167 (again_sl (cap := #[.pointer (some ⟨b4, 0, none⟩), .pointer (some ⟨b5, 0, none⟩), .pointer (some ⟨b6, 0, none⟩), .pointer (some ⟨b7, 0, none⟩), .pointer (some ⟨b10, 0, none⟩)]) (s := (st, ([] : List UInt8))) (fun x : St × List UInt8 => StoreC p x.1 :: outC b10 x.2 :: cells b7 [.int .i64 m] 3 :: cells b6 [.int .i64 off] 3 :: cells b5 [.string nm] 9 :: cells b4 [.pointer (some ⟨q, 0, none⟩)] 28 :: M) (getStep nm off m) (fun n x => x.1.calls + n < 4611686018427387904 ∧ x.1.failed + n < 4611686018427387904 ∧ x.1.small) hE ha ht hs ⟨by simp only; omega, by simp only; omega, hsm⟩ (fun n s h => by have := begin_counts s.1; simp only [getStep, getR_st]; exact ⟨by omega, by omega, h.2.2⟩) (fun n s _ => getR_code nm off m s.1) en170 (fun n s a w1 h hs => clGetC_sl hE h.2.2 hoff hm (by omega) (by omega) hs)) ?_
  clear hs
  rintro _ w ⟨rfl, hs⟩
  refine lw_val rfl (run_move (v := .tuple _) rfl) ?_
  refine lw_val rfl (run_extract (v := .bool _) rfl rfl) ?_
  refine lw_val rfl (run_extract (v := errV ad _) rfl rfl) ?_
  refine lw_val rfl (run_assign (v := .bool _) rfl) ?_
  refine lw_val rfl (run_assign (v := errV ad _) rfl) ?_
  refine lw_nil ?_
  rw [hk] at hs
  obtain ⟨x1, hs⟩ := (hs.pick 2 rfl).unex
  replace hs : Mem g w (cells b10 [.slice x1.1 out.length x1.2] 64 :: own (.slice x1.1 out.length x1.2) (bytesL out) :: clientC q p t (a + (n : Nat)) :: StoreC p st2 :: cells b7 [.int .i64 m] 3 :: cells b6 [.int .i64 off] 3 :: cells b5 [.string nm] 9 :: cells b4 [.pointer (some ⟨q, 0, none⟩)] 28 :: M) := hs.unstars
  refine cw_seq ?_
  refine cw_region ?_
  refine lw_val rfl (run_load Tryz.underlying64 rfl rfl (hs.cellAt 0 rfl rfl)) ?_
  refine lw_val rfl (run_move (v := errV ad _) rfl) ?_
  refine lw_val rfl (run_assign (v := .slice _ _ _) rfl) ?_
  refine lw_val rfl (run_assign (v := errV ad _) rfl) ?_
  refine lw_nil ?_
  refine cw_ret ?_
  refine res2 (v := .slice _ _ _) (v2 := errV ad _) rfl rfl rfl ?_
  exact ⟨_, rfl, x1.1, x1.2, by rw [hk], hs.arr [1, 2, 3] 8 (by decide)⟩
end Go.Proofs.YtkogkokmcmallaaGreatDoor
