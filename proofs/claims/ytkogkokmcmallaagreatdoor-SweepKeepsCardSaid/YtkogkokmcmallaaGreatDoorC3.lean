/- The client, over chunks: Put, Start, Head, Complete. -/
import Derived.Test.YtkogkokmcmallaaGreatDoorC2
namespace Go.Proofs.YtkogkokmcmallaaGreatDoor
set_option linter.all false
open Go.RowKit
attribute [local irreducible] errV
variable {g w : World} {L M : List HP} {ad : Nat → Addr} {p q : Nat} {st : St}

theorem run_neerr {ρ : Env} {w : World} {dst : Option Tmp} {ty : TypeId} {pos : String} {aft : Array Edge} {x y : Operand} {u : TypeId} {Lc : List Nat} {ad : Nat → Addr} {B : Nat} (h : Errs Lc ad B w) {c d : Nat} (hc : c = 0 ∨ c ∈ Lc) (hd : d ∈ Lc) (hx : ev ρ x = errV ad c) (hy : ev ρ y = errV ad d) : (execOp (ev ρ) ⟨dst, .binOp .neq 30 x y u, ty, pos, aft, none⟩).run Tryz.prog w = .ok (.value (.bool (!decide (c = d)))) w := by
  have hgd := guard_code ad .neq 30 x y (w := w) c (h.pos d hd)
  simp only [execOp, hx, hy, Sem.run_bind, hgd, binOp_errN, equal_err h hc hd, Result.andThen_ok, Sem.run_pure]

theorem again_codeS {σ : Type} {step : σ → Nat × σ} (h : ∀ s, (step s).1 = 0 ∨ (step s).1 ∈ coreCodes) : ∀ (t : Nat) (s : σ), (againR step t s).2.1 = 0 ∨ (againR step t s).2.1 ∈ coreCodes
  | 0, _ => .inr m111
  | t + 1, s => by
    simp only [againR]
    split
    · exact again_codeS h t _
    · exact h _

/-! ### Put -/
theorem put1_counts (n : ByteArray) (b : List UInt8) (st : St) : (st.put1 n b).2.calls = st.calls ∧ (st.put1 n b).2.failed = st.failed := by unfold St.put1; split <;> exact ⟨rfl, rfl⟩
theorem put1_code (n : ByteArray) (b : List UInt8) (st : St) : (st.put1 n b).1 = 0 ∨ (st.put1 n b).1 ∈ coreCodes := by
  unfold St.put1; split
  · exact .inl rfl
  · exact .inr m106
theorem clPutC_sl (hE : ErrG ad g) {t a : Int} {cb nb bb : Nat} {n : ByteArray} {b : List UInt8} {ba : Option Addr} {m c : Nat} (hcl : st.calls < 4611686018427387904) (hfl : st.failed < 4611686018427387904) (hs : Mem g w (clientC q p t a :: StoreC p st :: cells bb [.slice ba m c] 64 :: cells nb [.string n] 9 :: cells cb [.pointer (some ⟨q, 0, none⟩)] 28 :: M)) (hr : Rd g M (.slice ba m c) (bytesL b)) (hlen : b.length ≤ 1073741824) :
    Calls Tryz.prog 168 #[.pointer (some ⟨cb, 0, none⟩), .pointer (some ⟨nb, 0, none⟩), .pointer (some ⟨bb, 0, none⟩)] w (Ret fun v w' => v = errV ad (st.run (St.put1 n b)).1 ∧ Mem g w' (clientC q p t a :: StoreC p (st.run (St.put1 n b)).2 :: cells bb [.slice ba m c] 64 :: cells nb [.string n] 9 :: cells cb [.pointer (some ⟨q, 0, none⟩)] 28 :: M)) := by
  refine calls_cw Tryz.func168 rfl rfl ?_
  skip
  refine cw_seq ?_
  refine cw_region ?_
  refine lw_val rfl (run_assign (v := .nilIface) rfl) ?_
  refine lw_nil ?_
  refine cw_seq ?_
  refine cw_drawS mixes (hs.drop 1) ?_
  intro w tr hK
  replace hs := tr _ hs
  clear tr
  refine aw_take 0 rfl (by kernel_rfl) (by kernel_rfl) (by kernel_rfl) rfl (fun w hs => run_load Tryz.underlying28 rfl rfl (hs.cellAt 3 rfl rfl)) hK ?_
  refine aw_take 1 rfl (by kernel_rfl) (by kernel_rfl) (by kernel_rfl) rfl (fun w hs => run_nilCheckP rfl) hK ?_
  refine aw_take 2 rfl (by kernel_rfl) (by kernel_rfl) (by kernel_rfl) rfl (fun w hs => run_fieldAddr (o' := 0) Tryz.underlying137 rfl sz26 rfl rfl rfl) hK ?_
  refine aw_take 3 rfl (by kernel_rfl) (by kernel_rfl) (by kernel_rfl) rfl (fun w hs => run_load Tryz.underlying26 rfl rfl (hs.cellAt 0 rfl rfl)) hK ?_
  refine aw_take 4 rfl (by kernel_rfl) (by kernel_rfl) (by kernel_rfl) rfl (fun w hs => run_load Tryz.underlying9 rfl rfl (hs.cellAt 2 rfl rfl)) hK ?_
  refine aw_take 5 rfl (by kernel_rfl) (by kernel_rfl) (by kernel_rfl) rfl (fun w hs => run_load Tryz.underlying64 rfl rfl (hs.cellAt 1 rfl rfl)) hK ?_
  refine aw_ready [6] (by kernel_rfl) (by simp) ?_
  refine ⟨⟨_, rfl, ?_⟩, trivial⟩
  refine lw_call rfl en14 (put_sl hE (hs.pick 1 rfl) hcl hfl (n := n) (b := b) (fun w hs => hr w (hs.suffix 4 rfl)) hlen rfl) ?_
  clear hs
  rintro _ w ⟨rfl, hs⟩
  clear hK
  have hK := hs.tail
  refine lw_nil ⟨hK, ?_⟩
  refine aw_take 7 rfl (by kernel_rfl) (by kernel_rfl) (by kernel_rfl) rfl (fun w hs => run_assign (v := errV ad _) rfl) hK ?_
  refine aw_done (by kernel_rfl) ?_
  clear hK
  refine cw_ret ?_
  refine res1 (v := errV ad _) rfl rfl ?_
  exact ⟨_, rfl, rfl, hs.arr [1, 0] 2 (by decide)⟩
theorem clPut_sl (hE : ErrG ad g) {t : Nat} {a : Int} (ha : 0 ≤ a ∧ a < 1000000000000) (ht : t ≤ 8) (hs : Mem g w (clientC q p t a :: StoreC p st :: M)) (hcl : st.calls + 8 < 4611686018427387904) (hfl : st.failed + 8 < 4611686018427387904)
    {nm : ByteArray} {b : List UInt8} {ba : Option Addr} {m c : Nat} (hr : Rd g M (.slice ba m c) (bytesL b)) (hlen : b.length ≤ 1073741824) {lost : Bool} {x n : Nat} {st2 : St} (hk : againR (fun s => s.run (St.put1 nm b)) t st = (lost, x, n, st2)) :
    Calls Tryz.prog 65 #[.pointer (some ⟨q, 0, none⟩), .string nm, .slice ba m c] w (Ret fun v w' => v = errV ad x ∧ Mem g w' (clientC q p t (a + (n : Nat)) :: StoreC p st2 :: M)) := by
  refine calls_cw Tryz.func65 rfl rfl ?_
  skip
  refine cw_seq ?_
  refine cw_region ?_
  refine lw_box (v := .pointer (some _)) hs rfl rfl ?_
  clear hs
  intro b3 w hs
  try simp only [List.set_cons_succ, List.set_cons_zero] at hs
  refine lw_box (v := .string _) hs rfl rfl ?_
  clear hs
  intro b4 w hs
  try simp only [List.set_cons_succ, List.set_cons_zero] at hs
  refine lw_box (v := .slice _ _ _) hs rfl rfl ?_
  clear hs
  intro b5 w hs
  try simp only [List.set_cons_succ, List.set_cons_zero] at hs
  refine lw_val rfl (run_assign (v := .nilIface) rfl) ?_
  refine lw_nil ?_
  refine cw_seq ?_
  replace hs := hs.arr [3, 4, 0, 1, 2] 5 (by decide)
  simp only [List.filterMap, List.getElem?_cons_succ, List.getElem?_cons_zero, List.drop_succ_cons, List.drop_zero, List.cons_append, List.nil_append] at hs
  refine cw_region ?_
  refine lw_val rfl (run_load Tryz.underlying28 rfl rfl (hs.cellAt 4 rfl rfl)) ?_
  refine lw_val rfl (run_makeFunc) ?_
  refine lw_call rfl en167 (again_err (cap := #[.pointer (some ⟨b3, 0, none⟩), .pointer (some ⟨b4, 0, none⟩), .pointer (some ⟨b5, 0, none⟩)]) (St.put1 nm b) (fun _ => True) hE ha ht hs hcl hfl trivial (fun _ _ => trivial) (put1_counts nm b) (put1_code nm b) en168 (fun s a w1 h1 h2 _ hs => clPutC_sl hE h1 h2 hs hr hlen) hk) ?_
  clear hs
  rintro _ w ⟨rfl, hs⟩
  refine lw_val rfl (run_move (v := .tuple _) rfl) ?_
  refine lw_val rfl (run_extract (v := .bool _) rfl rfl) ?_
  refine lw_val rfl (run_extract (v := errV ad _) rfl rfl) ?_
  refine lw_val rfl (run_assign (v := .bool _) rfl) ?_
  refine lw_val rfl (run_assign (v := errV ad _) rfl) ?_
  refine lw_nil ?_
  refine cw_seq ?_
  refine cw_region ?_
  refine lw_val rfl (run_move (v := errV ad _) rfl) ?_
  refine lw_val rfl (run_assign (v := errV ad _) rfl) ?_
  refine lw_nil ?_
  refine cw_ret ?_
  refine res1 (v := errV ad _) rfl rfl ?_
  exact ⟨_, rfl, rfl, hs.arr [0, 1] 5 (by decide)⟩

/-! ### Start -/
theorem startR_counts (n : ByteArray) (st : St) : (st.startR n).2.2.calls = st.calls + 1 ∧ (st.startR n).2.2.failed ≤ st.failed + 1 ∧ (st.startR n).2.2.ids ≤ st.ids + 1 := by
  have h : ∀ s : St, (s.start1 n).2.2.calls = s.calls ∧ (s.start1 n).2.2.failed = s.failed ∧ (s.start1 n).2.2.ids ≤ s.ids + 1 := fun s => by unfold St.start1; split <;> exact ⟨rfl, rfl, by simp⟩
  have hb : st.begin.calls = st.calls + 1 ∧ st.begin.failed ≤ st.failed + 1 ∧ st.begin.ids = st.ids := ⟨rfl, by simp only [St.begin]; split <;> omega, rfl⟩
  obtain ⟨h1, h2, h3⟩ := h st.begin
  unfold St.startR
  split
  · exact ⟨hb.1, hb.2.1, by rw [hb.2.2]; omega⟩
  · split <;> exact ⟨by rw [h1]; exact hb.1, by rw [h2]; exact hb.2.1, by rw [hb.2.2] at h3; exact h3⟩
theorem startR_code (n : ByteArray) (st : St) : (st.startR n).2.1 = 0 ∨ (st.startR n).2.1 ∈ coreCodes := by
  unfold St.startR St.start1
  split
  · exact .inr m111
  · split
    · exact .inr m111
    · split
      · exact .inl rfl
      · exact .inr m106
abbrev startStep (n : ByteArray) (s : St × Int) : Nat × St × Int := ((s.1.startR n).2.1, (s.1.startR n).2.2, (s.1.startR n).1)
theorem clStartC_sl (hE : ErrG ad g) {t a : Int} {cb nb ib : Nat} {n : ByteArray} {i : Int} (hid : st.ids < 4611686018427387904) (hcl : st.calls < 4611686018427387904) (hfl : st.failed < 4611686018427387904) (hs : Mem g w (clientC q p t a :: StoreC p st :: cells ib [.int .i64 i] 3 :: cells nb [.string n] 9 :: cells cb [.pointer (some ⟨q, 0, none⟩)] 28 :: M)) :
    Calls Tryz.prog 175 #[.pointer (some ⟨cb, 0, none⟩), .pointer (some ⟨nb, 0, none⟩), .pointer (some ⟨ib, 0, none⟩)] w (Ret fun v w' => v = errV ad (st.startR n).2.1 ∧ Mem g w' (clientC q p t a :: StoreC p (st.startR n).2.2 :: cells ib [.int .i64 (st.startR n).1] 3 :: cells nb [.string n] 9 :: cells cb [.pointer (some ⟨q, 0, none⟩)] 28 :: M)) := by
  refine calls_cw Tryz.func175 rfl rfl ?_
  skip
  refine cw_seq ?_
  refine cw_region ?_
  refine lw_val rfl (run_assign (v := .nilIface) rfl) ?_
  refine lw_nil ?_
  refine cw_seq ?_
  refine cw_drawS mixes ((hs.drop 1).drop 1) ?_
  intro w tr hK
  replace hs := tr _ hs
  clear tr
  refine aw_take 0 rfl (by kernel_rfl) (by kernel_rfl) (by kernel_rfl) rfl (fun w hs => run_load Tryz.underlying28 rfl rfl (hs.cellAt 2 rfl rfl)) hK ?_
  refine aw_take 1 rfl (by kernel_rfl) (by kernel_rfl) (by kernel_rfl) rfl (fun w hs => run_nilCheckP rfl) hK ?_
  refine aw_take 2 rfl (by kernel_rfl) (by kernel_rfl) (by kernel_rfl) rfl (fun w hs => run_fieldAddr (o' := 0) Tryz.underlying137 rfl sz26 rfl rfl rfl) hK ?_
  refine aw_take 3 rfl (by kernel_rfl) (by kernel_rfl) (by kernel_rfl) rfl (fun w hs => run_load Tryz.underlying26 rfl rfl (hs.cellAt 0 rfl rfl)) hK ?_
  refine aw_take 4 rfl (by kernel_rfl) (by kernel_rfl) (by kernel_rfl) rfl (fun w hs => run_load Tryz.underlying9 rfl rfl (hs.cellAt 1 rfl rfl)) hK ?_
  refine aw_ready [5] (by kernel_rfl) (by simp) ?_
  refine ⟨⟨_, rfl, ?_⟩, trivial⟩
  refine lw_call rfl en18 (start_sl hE (hs.pick 1 rfl) hid hcl hfl (n := n) rfl) ?_
  clear hs
  rintro _ w ⟨rfl, hs⟩
  clear hK
  have hK := hs.tail.drop 1
  refine lw_nil ⟨hK, ?_⟩
  refine aw_take 6 rfl (by kernel_rfl) (by kernel_rfl) (by kernel_rfl) rfl (fun w hs => run_move (v := .tuple _) rfl) hK ?_
  refine aw_take 7 rfl (by kernel_rfl) (by kernel_rfl) (by kernel_rfl) rfl (fun w hs => run_extract (v := .int .i64 _) rfl rfl) hK ?_
  refine aw_take 8 rfl (by kernel_rfl) (by kernel_rfl) (by kernel_rfl) rfl (fun w hs => run_extract (v := errV ad _) rfl rfl) hK ?_
  refine aw_ready [9] (by kernel_rfl) (by simp) ?_
  refine ⟨⟨_, rfl, ?_⟩, trivial⟩
  refine lw_store (v := .int .i64 _) hs 2 rfl sz3 rfl rfl rfl rfl ?_
  clear hs
  intro w hs
  try simp only [List.set_cons_succ, List.set_cons_zero] at hs
  clear hK
  have hK := hs.tail.drop 1
  refine lw_nil ⟨hK, ?_⟩
  refine aw_take 10 rfl (by kernel_rfl) (by kernel_rfl) (by kernel_rfl) rfl (fun w hs => run_assign (v := errV ad _) rfl) hK ?_
  refine aw_done (by kernel_rfl) ?_
  clear hK
  refine cw_seq ?_
  refine cw_region ?_
  refine lw_val rfl (run_move (v := errV ad _) rfl) ?_
  refine lw_val rfl (run_assign (v := errV ad _) rfl) ?_
  refine lw_nil ?_
  refine cw_ret ?_
  refine res1 (v := errV ad _) rfl rfl ?_
  exact ⟨_, rfl, rfl, hs.arr [1, 0] 2 (by decide)⟩
theorem clStart_sl (hE : ErrG ad g) {t : Nat} {a : Int} (ha : 0 ≤ a ∧ a < 1000000000000) (ht : t ≤ 8) (hs : Mem g w (clientC q p t a :: StoreC p st :: M)) (hid : st.ids + 8 < 4611686018427387904) (hcl : st.calls + 8 < 4611686018427387904) (hfl : st.failed + 8 < 4611686018427387904)
    {nm : ByteArray} {lost : Bool} {x n : Nat} {st2 : St} {i : Int} (hk : againR (startStep nm) t (st, 0) = (lost, x, n, st2, i)) :
    Calls Tryz.prog 75 #[.pointer (some ⟨q, 0, none⟩), .string nm] w (Ret fun v w' => v = .tuple #[.int .i64 i, errV ad x] ∧ Mem g w' (clientC q p t (a + (n : Nat)) :: StoreC p st2 :: M)) := by
  refine calls_cw Tryz.func75 rfl rfl ?_
  skip
  refine cw_seq ?_
  refine cw_region ?_
  refine lw_box (v := .pointer (some _)) hs rfl rfl ?_
  clear hs
  intro b2 w hs
  try simp only [List.set_cons_succ, List.set_cons_zero] at hs
  refine lw_box (v := .string _) hs rfl rfl ?_
  clear hs
  intro b3 w hs
  try simp only [List.set_cons_succ, List.set_cons_zero] at hs
  refine lw_val rfl (run_assign (v := .int .i64 _) rfl) ?_
  refine lw_val rfl (run_assign (v := .nilIface) rfl) ?_
  refine lw_nil ?_
  refine cw_seq ?_
  refine cw_region ?_
  refine lw_alloc hs rfl ze3 ?_
  clear hs
  intro b6 w hs
  try simp only [List.set_cons_succ, List.set_cons_zero] at hs
  refine lw_store (v := .int .i64 _) hs 0 rfl sz3 rfl rfl rfl rfl ?_
  clear hs
  intro w hs
  try simp only [List.set_cons_succ, List.set_cons_zero] at hs
  refine lw_nil ?_
  refine cw_seq ?_
  replace hs := hs.arr [3, 4, 0, 1, 2] 5 (by decide)
  simp only [List.filterMap, List.getElem?_cons_succ, List.getElem?_cons_zero, List.drop_succ_cons, List.drop_zero, List.cons_append, List.nil_append] at hs
  refine cw_region ?_
  refine lw_val rfl (run_load Tryz.underlying28 rfl rfl (hs.cellAt 4 rfl rfl)) ?_
  refine lw_val rfl (run_makeFunc) ?_
  refine lw_call rfl en167 (again_sl (cap := #[.pointer (some ⟨b2, 0, none⟩), .pointer (some ⟨b3, 0, none⟩), .pointer (some ⟨b6, 0, none⟩)]) (s := (st, (0 : Int))) (fun x : St × Int => StoreC p x.1 :: cells b6 [.int .i64 x.2] 3 :: cells b3 [.string nm] 9 :: cells b2 [.pointer (some ⟨q, 0, none⟩)] 28 :: M) (startStep nm) (fun n x => x.1.calls + n < 4611686018427387904 ∧ x.1.failed + n < 4611686018427387904 ∧ x.1.ids + n < 4611686018427387904) hE ha ht hs ⟨by simp only; omega, by simp only; omega, by simp only; omega⟩ (fun n s h => by have := startR_counts nm s.1; simp only [startStep]; omega) (fun n s _ => startR_code nm s.1) en175 (fun n s a w1 h hs => clStartC_sl hE (by omega) (by omega) (by omega) hs)) ?_
  clear hs
  rintro _ w ⟨rfl, hs⟩
  refine lw_val rfl (run_move (v := .tuple _) rfl) ?_
  refine lw_val rfl (run_extract (v := .bool _) rfl rfl) ?_
  refine lw_val rfl (run_extract (v := errV ad _) rfl rfl) ?_
  refine lw_val rfl (run_assign (v := .bool _) rfl) ?_
  refine lw_val rfl (run_assign (v := errV ad _) rfl) ?_
  refine lw_nil ?_
  rw [hk] at hs
  refine cw_seq ?_
  refine cw_region ?_
  refine lw_val rfl (run_load Tryz.underlying3 rfl rfl (hs.cellAt 2 rfl rfl)) ?_
  refine lw_val rfl (run_move (v := errV ad _) rfl) ?_
  refine lw_val rfl (run_assign (v := .int .i64 _) rfl) ?_
  refine lw_val rfl (run_assign (v := errV ad _) rfl) ?_
  refine lw_nil ?_
  refine cw_ret ?_
  refine res2 (v := .int .i64 _) (v2 := errV ad _) rfl rfl rfl ?_
  exact ⟨_, rfl, by rw [hk], hs.arr [0, 1] 5 (by decide)⟩

/-! ### Head -/
theorem headR_counts (n : ByteArray) (st : St) : (st.headR n).2.2.2 = st.begin := by unfold St.headR; split <;> (try split) <;> rfl
theorem begin_counts (st : St) : st.begin.calls = st.calls + 1 ∧ st.begin.failed ≤ st.failed + 1 := ⟨rfl, by simp only [St.begin]; split <;> omega⟩
theorem headR_code (n : ByteArray) (st : St) : (st.headR n).2.2.1 = 0 ∨ (st.headR n).2.2.1 ∈ coreCodes := by
  unfold St.headR St.head1
  split
  · exact .inr m111
  · cases aget st.begin.objs n with
    | none => exact .inr m107
    | some b => exact .inl rfl
abbrev headStep (n : ByteArray) (s : St × Int × Int) : Nat × St × Int × Int := ((s.1.headR n).2.2.1, (s.1.headR n).2.2.2, (s.1.headR n).1, (s.1.headR n).2.1)
theorem clHeadC_sl (hE : ErrG ad g) (hsm : st.small) {t a : Int} {cb nb lb ub : Nat} {n : ByteArray} {i j : Int} (hcl : st.calls < 4611686018427387904) (hfl : st.failed < 4611686018427387904) (hs : Mem g w (clientC q p t a :: StoreC p st :: cells ub [.int .u32 j] 39 :: cells lb [.int .i64 i] 3 :: cells nb [.string n] 9 :: cells cb [.pointer (some ⟨q, 0, none⟩)] 28 :: M)) :
    Calls Tryz.prog 171 #[.pointer (some ⟨cb, 0, none⟩), .pointer (some ⟨nb, 0, none⟩), .pointer (some ⟨lb, 0, none⟩), .pointer (some ⟨ub, 0, none⟩)] w (Ret fun v w' => v = errV ad (st.headR n).2.2.1 ∧ Mem g w' (clientC q p t a :: StoreC p (st.headR n).2.2.2 :: cells ub [.int .u32 (st.headR n).2.1] 39 :: cells lb [.int .i64 (st.headR n).1] 3 :: cells nb [.string n] 9 :: cells cb [.pointer (some ⟨q, 0, none⟩)] 28 :: M)) := by
  refine calls_cw Tryz.func171 rfl rfl ?_
  skip
  refine cw_seq ?_
  refine cw_region ?_
  refine lw_val rfl (run_assign (v := .nilIface) rfl) ?_
  refine lw_nil ?_
  refine cw_seq ?_
  refine cw_drawS mixes (((hs.drop 1).drop 1).drop 1) ?_
  intro w tr hK
  replace hs := tr _ hs
  clear tr
  refine aw_take 0 rfl (by kernel_rfl) (by kernel_rfl) (by kernel_rfl) rfl (fun w hs => run_load Tryz.underlying28 rfl rfl (hs.cellAt 2 rfl rfl)) hK ?_
  refine aw_take 1 rfl (by kernel_rfl) (by kernel_rfl) (by kernel_rfl) rfl (fun w hs => run_nilCheckP rfl) hK ?_
  refine aw_take 2 rfl (by kernel_rfl) (by kernel_rfl) (by kernel_rfl) rfl (fun w hs => run_fieldAddr (o' := 0) Tryz.underlying137 rfl sz26 rfl rfl rfl) hK ?_
  refine aw_take 3 rfl (by kernel_rfl) (by kernel_rfl) (by kernel_rfl) rfl (fun w hs => run_load Tryz.underlying26 rfl rfl (hs.cellAt 0 rfl rfl)) hK ?_
  refine aw_take 4 rfl (by kernel_rfl) (by kernel_rfl) (by kernel_rfl) rfl (fun w hs => run_load Tryz.underlying9 rfl rfl (hs.cellAt 1 rfl rfl)) hK ?_
  refine aw_ready [5] (by kernel_rfl) (by simp) ?_
  refine ⟨⟨_, rfl, ?_⟩, trivial⟩
  refine lw_call rfl en47 (head_sl hE hsm (hs.pick 1 rfl) hcl hfl n rfl) ?_
  clear hs
  rintro _ w ⟨rfl, hs⟩
  clear hK
  have hK := (hs.tail.drop 1).drop 1
  refine lw_nil ⟨hK, ?_⟩
  refine aw_take 6 rfl (by kernel_rfl) (by kernel_rfl) (by kernel_rfl) rfl (fun w hs => run_move (v := .tuple _) rfl) hK ?_
  refine aw_take 7 rfl (by kernel_rfl) (by kernel_rfl) (by kernel_rfl) rfl (fun w hs => run_extract (v := .int .i64 _) rfl rfl) hK ?_
  refine aw_take 8 rfl (by kernel_rfl) (by kernel_rfl) (by kernel_rfl) rfl (fun w hs => run_extract (v := .int .u32 _) rfl rfl) hK ?_
  refine aw_take 9 rfl (by kernel_rfl) (by kernel_rfl) (by kernel_rfl) rfl (fun w hs => run_extract (v := errV ad _) rfl rfl) hK ?_
  refine aw_ready [10] (by kernel_rfl) (by simp) ?_
  refine ⟨⟨_, rfl, ?_⟩, trivial⟩
  refine lw_store (v := .int .i64 _) hs 3 rfl sz3 rfl rfl rfl rfl ?_
  clear hs
  intro w hs
  try simp only [List.set_cons_succ, List.set_cons_zero] at hs
  clear hK
  have hK := (hs.tail.drop 1).drop 1
  refine lw_nil ⟨hK, ?_⟩
  refine aw_ready [11] (by kernel_rfl) (by simp) ?_
  refine ⟨⟨_, rfl, ?_⟩, trivial⟩
  refine lw_store (v := .int .u32 _) hs 2 rfl sz39 rfl rfl rfl rfl ?_
  clear hs
  intro w hs
  try simp only [List.set_cons_succ, List.set_cons_zero] at hs
  clear hK
  have hK := (hs.tail.drop 1).drop 1
  refine lw_nil ⟨hK, ?_⟩
  refine aw_take 12 rfl (by kernel_rfl) (by kernel_rfl) (by kernel_rfl) rfl (fun w hs => run_assign (v := errV ad _) rfl) hK ?_
  refine aw_done (by kernel_rfl) ?_
  clear hK
  refine cw_seq ?_
  refine cw_region ?_
  refine lw_val rfl (run_move (v := errV ad _) rfl) ?_
  refine lw_val rfl (run_assign (v := errV ad _) rfl) ?_
  refine lw_nil ?_
  refine cw_ret ?_
  refine res1 (v := errV ad _) rfl rfl ?_
  exact ⟨_, rfl, rfl, hs.arr [1, 0] 2 (by decide)⟩
theorem clHead_sl (hE : ErrG ad g) (hsm : st.small) {t : Nat} {a : Int} (ha : 0 ≤ a ∧ a < 1000000000000) (ht : t ≤ 8) (hs : Mem g w (clientC q p t a :: StoreC p st :: M)) (hcl : st.calls + 8 < 4611686018427387904) (hfl : st.failed + 8 < 4611686018427387904)
    {nm : ByteArray} {lost : Bool} {x n : Nat} {st2 : St} {i j : Int} (hk : againR (headStep nm) t (st, 0, 0) = (lost, x, n, st2, i, j)) :
    Calls Tryz.prog 69 #[.pointer (some ⟨q, 0, none⟩), .string nm] w (Ret fun v w' => v = .tuple #[.int .i64 i, .int .u32 j, errV ad x] ∧ Mem g w' (clientC q p t (a + (n : Nat)) :: StoreC p st2 :: M)) := by
  refine calls_cw Tryz.func69 rfl rfl ?_
  skip
  refine cw_seq ?_
  refine cw_region ?_
  refine lw_box (v := .pointer (some _)) hs rfl rfl ?_
  clear hs
  intro b2 w hs
  try simp only [List.set_cons_succ, List.set_cons_zero] at hs
  refine lw_box (v := .string _) hs rfl rfl ?_
  clear hs
  intro b3 w hs
  try simp only [List.set_cons_succ, List.set_cons_zero] at hs
  refine lw_val rfl (run_assign (v := .int .i64 _) rfl) ?_
  refine lw_val rfl (run_assign (v := .int .u32 _) rfl) ?_
  refine lw_val rfl (run_assign (v := .nilIface) rfl) ?_
  refine lw_nil ?_
  refine cw_seq ?_
  refine cw_region ?_
  refine lw_alloc hs rfl ze3 ?_
  clear hs
  intro b7 w hs
  try simp only [List.set_cons_succ, List.set_cons_zero] at hs
  refine lw_alloc hs rfl ze39 ?_
  clear hs
  intro b8 w hs
  try simp only [List.set_cons_succ, List.set_cons_zero] at hs
  refine lw_store (v := .int .i64 _) hs 1 rfl sz3 rfl rfl rfl rfl ?_
  clear hs
  intro w hs
  try simp only [List.set_cons_succ, List.set_cons_zero] at hs
  refine lw_store (v := .int .u32 _) hs 0 rfl sz39 rfl rfl rfl rfl ?_
  clear hs
  intro w hs
  try simp only [List.set_cons_succ, List.set_cons_zero] at hs
  refine lw_nil ?_
  refine cw_seq ?_
  replace hs := hs.arr [4, 5, 0, 1, 2, 3] 6 (by decide)
  simp only [List.filterMap, List.getElem?_cons_succ, List.getElem?_cons_zero, List.drop_succ_cons, List.drop_zero, List.cons_append, List.nil_append] at hs
  refine cw_region ?_
  refine lw_val rfl (run_load Tryz.underlying28 rfl rfl (hs.cellAt 5 rfl rfl)) ?_
  refine lw_val rfl (run_makeFunc) ?_
  refine lw_call rfl en167 (again_sl (cap := #[.pointer (some ⟨b2, 0, none⟩), .pointer (some ⟨b3, 0, none⟩), .pointer (some ⟨b7, 0, none⟩), .pointer (some ⟨b8, 0, none⟩)]) (s := (st, (0 : Int), (0 : Int))) (fun x : St × Int × Int => StoreC p x.1 :: cells b8 [.int .u32 x.2.2] 39 :: cells b7 [.int .i64 x.2.1] 3 :: cells b3 [.string nm] 9 :: cells b2 [.pointer (some ⟨q, 0, none⟩)] 28 :: M) (headStep nm) (fun n x => x.1.calls + n < 4611686018427387904 ∧ x.1.failed + n < 4611686018427387904 ∧ x.1.small) hE ha ht hs ⟨by simp only; omega, by simp only; omega, hsm⟩ (fun n s h => by have := begin_counts s.1; simp only [headStep, headR_counts]; exact ⟨by omega, by omega, h.2.2⟩) (fun n s _ => headR_code nm s.1) en171 (fun n s a w1 h hs => clHeadC_sl hE h.2.2 (by omega) (by omega) hs)) ?_
  clear hs
  rintro _ w ⟨rfl, hs⟩
  refine lw_val rfl (run_move (v := .tuple _) rfl) ?_
  refine lw_val rfl (run_extract (v := .bool _) rfl rfl) ?_
  refine lw_val rfl (run_extract (v := errV ad _) rfl rfl) ?_
  refine lw_val rfl (run_assign (v := .bool _) rfl) ?_
  refine lw_val rfl (run_assign (v := errV ad _) rfl) ?_
  refine lw_nil ?_
  rw [hk] at hs
  refine cw_seq ?_
  refine cw_drawS mixes hs ?_
  intro w tr hK
  replace hs := tr _ hs
  clear tr
  refine aw_take 0 rfl (by kernel_rfl) (by kernel_rfl) (by kernel_rfl) rfl (fun w hs => run_load Tryz.underlying3 rfl rfl (hs.cellAt 3 rfl rfl)) hK ?_
  refine aw_take 1 rfl (by kernel_rfl) (by kernel_rfl) (by kernel_rfl) rfl (fun w hs => run_load Tryz.underlying39 rfl rfl (hs.cellAt 2 rfl rfl)) hK ?_
  refine aw_take 2 rfl (by kernel_rfl) (by kernel_rfl) (by kernel_rfl) rfl (fun w hs => run_move (v := errV ad _) rfl) hK ?_
  refine aw_take 3 rfl (by kernel_rfl) (by kernel_rfl) (by kernel_rfl) rfl (fun w hs => run_assign (v := .int .i64 _) rfl) hK ?_
  refine aw_take 4 rfl (by kernel_rfl) (by kernel_rfl) (by kernel_rfl) rfl (fun w hs => run_assign (v := .int .u32 _) rfl) hK ?_
  refine aw_take 5 rfl (by kernel_rfl) (by kernel_rfl) (by kernel_rfl) rfl (fun w hs => run_assign (v := errV ad _) rfl) hK ?_
  refine aw_done (by kernel_rfl) ?_
  clear hK
  refine cw_ret ?_
  refine res3 (v := .int .i64 _) (v2 := .int .u32 _) (v3 := errV ad _) rfl rfl rfl rfl ?_
  exact ⟨_, rfl, by rw [hk], hs.arr [0, 1] 6 (by decide)⟩

/-! ### Complete -/
theorem complete1_counts (id k : Int) (st : St) : (st.complete1 id k).2.calls = st.calls ∧ (st.complete1 id k).2.failed = st.failed := by
  unfold St.complete1; split
  · exact ⟨rfl, rfl⟩
  · split
    · exact ⟨rfl, rfl⟩
    · split <;> exact ⟨rfl, rfl⟩
theorem complete1_code (id k : Int) (st : St) : (st.complete1 id k).1 = 0 ∨ (st.complete1 id k).1 ∈ coreCodes := by
  unfold St.complete1; split
  · exact .inr m107
  · split
    · exact .inr m105
    · split
      · exact .inl rfl
      · exact .inr m105
theorem aput_mem {κ α : Type} [DecidableEq κ] {l : List (κ × α)} {k k' : κ} {v v' : α} (h : (k', v') ∈ aput l k v) : (k', v') = (k, v) ∨ (k', v') ∈ l := by
  induction l with
  | nil => simp [aput] at h; exact .inl (by rw [h.1, h.2])
  | cons x l ih =>
    obtain ⟨a, b⟩ := x
    simp only [aput] at h
    split at h
    · rcases List.mem_cons.1 h with h | h
      · exact .inl h
      · exact .inr (List.mem_cons_of_mem _ h)
    · rcases List.mem_cons.1 h with h | h
      · exact .inr (by rw [h]; exact List.mem_cons_self ..)
      · rcases ih h with h | h
        · exact .inl h
        · exact .inr (List.mem_cons_of_mem _ h)
theorem adel_mem {κ α : Type} [DecidableEq κ] {l : List (κ × α)} {k k' : κ} {v' : α} (h : (k', v') ∈ adel l k) : (k', v') ∈ l := by
  induction l with
  | nil => simp [adel] at h
  | cons x l ih =>
    obtain ⟨a, b⟩ := x
    simp only [adel] at h
    split at h
    · exact List.mem_cons_of_mem _ h
    · rcases List.mem_cons.1 h with h | h
      · rw [h]; exact List.mem_cons_self ..
      · exact List.mem_cons_of_mem _ (ih h)
theorem complete1_small {st : St} (h : st.small) (id k : Int) : (st.complete1 id k).2.small := by
  unfold St.complete1
  split
  · exact h
  · rename_i u hu
    split
    · exact h
    · rename_i hk
      split
      · refine ⟨fun n b hm => ?_, fun i u hm => h.2 i u (adel_mem hm)⟩
        rcases aput_mem hm with hm | hm
        · simp only [Prod.mk.injEq] at hm
          rw [hm.2]
          have := outK_len (h.2 id u (aget_mem hu)) k.toNat
          have h2 : k.toNat * 4194304 ≤ 256 * 4194304 := Nat.mul_le_mul_right _ (by omega)
          omega
        · exact h.1 n b hm
      · exact h
theorem run_small {good : St → Nat × St} (hg : ∀ st : St, st.small → (good st).2.small) {st : St} (h : st.small) : (st.run good).2.small := by
  have hb : st.begin.small := h
  unfold St.run
  split
  · exact hb
  · exact hg _ hb
theorem againR_run {good : St → Nat × St} (hgc : ∀ st, (good st).2.calls = st.calls ∧ (good st).2.failed = st.failed) (hgs : ∀ st : St, st.small → (good st).2.small) : ∀ (t : Nat) (st : St), st.small → (againR (fun s => s.run good) t st).2.2.2.calls ≤ st.calls + t ∧ (againR (fun s => s.run good) t st).2.2.2.failed ≤ st.failed + t ∧ (againR (fun s => s.run good) t st).2.2.2.small ∧ (againR (fun s => s.run good) t st).2.2.1 ≤ t
  | 0, st, h => ⟨Nat.le_refl _, Nat.le_refl _, h, Nat.le_refl _⟩
  | t + 1, st, h => by
    have h1 := runs_counts hgc st
    have h2 := run_small hgs h
    have ih := againR_run hgc hgs t _ h2
    simp only [againR]
    split
    · exact ⟨by simp only; omega, by simp only; omega, ih.2.2.1, by simp only; omega⟩
    · exact ⟨by simp only; omega, by simp only; omega, h2, by simp only; omega⟩
theorem clCompleteC_sl (hE : ErrG ad g) (hsm : st.small) {t a : Int} {cb ib kb : Nat} {id k : Int} (hcl : st.calls < 4611686018427387904) (hfl : st.failed < 4611686018427387904) (hs : Mem g w (clientC q p t a :: StoreC p st :: cells kb [.int .i64 k] 3 :: cells ib [.int .i64 id] 3 :: cells cb [.pointer (some ⟨q, 0, none⟩)] 28 :: M)) :
    Calls Tryz.prog 177 #[.pointer (some ⟨cb, 0, none⟩), .pointer (some ⟨ib, 0, none⟩), .pointer (some ⟨kb, 0, none⟩)] w (Ret fun v w' => v = errV ad (st.run (St.complete1 id k)).1 ∧ Mem g w' (clientC q p t a :: StoreC p (st.run (St.complete1 id k)).2 :: cells kb [.int .i64 k] 3 :: cells ib [.int .i64 id] 3 :: cells cb [.pointer (some ⟨q, 0, none⟩)] 28 :: M)) := by
  refine calls_cw Tryz.func177 rfl rfl ?_
  skip
  refine cw_seq ?_
  refine cw_region ?_
  refine lw_val rfl (run_assign (v := .nilIface) rfl) ?_
  refine lw_nil ?_
  refine cw_seq ?_
  refine cw_drawS mixes (hs.drop 1) ?_
  intro w tr hK
  replace hs := tr _ hs
  clear tr
  refine aw_take 0 rfl (by kernel_rfl) (by kernel_rfl) (by kernel_rfl) rfl (fun w hs => run_load Tryz.underlying28 rfl rfl (hs.cellAt 3 rfl rfl)) hK ?_
  refine aw_take 1 rfl (by kernel_rfl) (by kernel_rfl) (by kernel_rfl) rfl (fun w hs => run_nilCheckP rfl) hK ?_
  refine aw_take 2 rfl (by kernel_rfl) (by kernel_rfl) (by kernel_rfl) rfl (fun w hs => run_fieldAddr (o' := 0) Tryz.underlying137 rfl sz26 rfl rfl rfl) hK ?_
  refine aw_take 3 rfl (by kernel_rfl) (by kernel_rfl) (by kernel_rfl) rfl (fun w hs => run_load Tryz.underlying26 rfl rfl (hs.cellAt 0 rfl rfl)) hK ?_
  refine aw_take 4 rfl (by kernel_rfl) (by kernel_rfl) (by kernel_rfl) rfl (fun w hs => run_load Tryz.underlying3 rfl rfl (hs.cellAt 2 rfl rfl)) hK ?_
  refine aw_take 5 rfl (by kernel_rfl) (by kernel_rfl) (by kernel_rfl) rfl (fun w hs => run_load Tryz.underlying3 rfl rfl (hs.cellAt 1 rfl rfl)) hK ?_
  refine aw_ready [6] (by kernel_rfl) (by simp) ?_
  refine ⟨⟨_, rfl, ?_⟩, trivial⟩
  refine lw_call rfl en56 (complete_sl hE hsm (hs.pick 1 rfl) hcl hfl (id := id) (k := k) rfl) ?_
  clear hs
  rintro _ w ⟨rfl, hs⟩
  clear hK
  have hK := hs.tail
  refine lw_nil ⟨hK, ?_⟩
  refine aw_take 7 rfl (by kernel_rfl) (by kernel_rfl) (by kernel_rfl) rfl (fun w hs => run_assign (v := errV ad _) rfl) hK ?_
  refine aw_done (by kernel_rfl) ?_
  clear hK
  refine cw_ret ?_
  refine res1 (v := errV ad _) rfl rfl ?_
  exact ⟨_, rfl, rfl, hs.arr [1, 0] 2 (by decide)⟩
theorem clComplete_sl (hE : ErrG ad g) (hsm : st.small) {t : Nat} {a : Int} (ha : 0 ≤ a ∧ a < 900000000000) (ht : t ≤ 8) (hs : Mem g w (clientC q p t a :: StoreC p st :: M)) (hcl : st.calls + 16 < 4611686018427387904) (hfl : st.failed + 16 < 4611686018427387904)
    {id k size sum : Int} {nm : ByteArray} {lost l2 : Bool} {x y n m : Nat} {st2 st3 : St} {i j : Int} (hk : againR (fun s => s.run (St.complete1 id k)) t st = (lost, x, n, st2)) (hq : againR (headStep nm) t (st2, 0, 0) = (l2, y, m, st3, i, j)) :
    Calls Tryz.prog 79 #[.pointer (some ⟨q, 0, none⟩), .int .i64 id, .int .i64 k, .string nm, .int .i64 size, .int .u32 sum] w
      (Ret fun v w' => v = errV ad (if lost = true ∧ x = 107 then (if y = 111 then 111 else if y = 0 ∧ i = size ∧ j = sum then 0 else 107) else x) ∧ Mem g w' (clientC q p t (a + (if lost = true ∧ x = 107 then n + m else n : Nat)) :: StoreC p (if lost = true ∧ x = 107 then st3 else st2) :: M)) := by
  have hx := again_code (good := St.complete1 id k) (complete1_code id k) t st
  have hst := againR_run (complete1_counts id k) (fun st h => complete1_small h id k) t st hsm
  rw [hk] at hx hst
  simp only at hx hst
  have hy := again_codeS (step := headStep nm) (fun s => headR_code nm s.1) t (st2, 0, 0)
  rw [hq] at hy
  simp only at hy
  refine calls_cw Tryz.func79 rfl rfl ?_
  skip
  refine cw_seq ?_
  refine cw_region ?_
  refine lw_box (v := .pointer (some _)) hs rfl rfl ?_
  clear hs
  intro b6 w hs
  try simp only [List.set_cons_succ, List.set_cons_zero] at hs
  refine lw_box (v := .int .i64 _) hs rfl rfl ?_
  clear hs
  intro b7 w hs
  try simp only [List.set_cons_succ, List.set_cons_zero] at hs
  refine lw_box (v := .int .i64 _) hs rfl rfl ?_
  clear hs
  intro b8 w hs
  try simp only [List.set_cons_succ, List.set_cons_zero] at hs
  refine lw_val rfl (run_assign (v := .nilIface) rfl) ?_
  refine lw_nil ?_
  refine cw_seq ?_
  replace hs := hs.arr [3, 4, 0, 1, 2] 5 (by decide)
  simp only [List.filterMap, List.getElem?_cons_succ, List.getElem?_cons_zero, List.drop_succ_cons, List.drop_zero, List.cons_append, List.nil_append] at hs
  refine cw_region ?_
  refine lw_val rfl (run_load Tryz.underlying28 rfl rfl (hs.cellAt 4 rfl rfl)) ?_
  refine lw_val rfl (run_makeFunc) ?_
  refine lw_call rfl en167 (again_err (cap := #[.pointer (some ⟨b6, 0, none⟩), .pointer (some ⟨b7, 0, none⟩), .pointer (some ⟨b8, 0, none⟩)]) (St.complete1 id k) St.small hE ⟨ha.1, by omega⟩ ht hs (by omega) (by omega) hsm (fun _ h => run_small (fun st h => complete1_small h id k) h) (complete1_counts id k) (complete1_code id k) en177 (fun s a w1 h1 h2 hsm hs => clCompleteC_sl hE hsm h1 h2 hs) hk) ?_
  clear hs
  rintro _ w ⟨rfl, hs⟩
  refine lw_val rfl (run_move (v := .tuple _) rfl) ?_
  refine lw_val rfl (run_extract (v := .bool _) rfl rfl) ?_
  refine lw_val rfl (run_extract (v := errV ad _) rfl rfl) ?_
  refine lw_val rfl (run_assign (v := .bool _) rfl) ?_
  refine lw_val rfl (run_assign (v := errV ad _) rfl) ?_
  refine lw_nil ?_
  refine cw_seq ?_
  refine cw_seq ?_
  refine cw_region ?_
  refine lw_val rfl (run_move (v := .bool _) rfl) ?_
  refine lw_val rfl (run_not rfl) ?_
  refine lw_val rfl (run_move (v := .bool _) rfl) ?_
  refine lw_split (t := _) (d := 26) rfl ?_ ?_
  · intro h22
    replace h22 := not_b h22
    refine lw_off rfl rfl rfl (not_t h22) ?_
    refine lw_off rfl rfl rfl (not_t h22) ?_
    refine lw_off rfl rfl rfl (not_t h22) ?_
    refine lw_val rfl (run_pickT (v := .bool _) rfl (not_t h22) rfl) ?_
    refine lw_nil ?_
    refine cw_ift rfl rfl ?_
    refine cw_seq ?_
    refine cw_region ?_
    refine lw_val rfl (run_move (v := errV ad _) rfl) ?_
    refine lw_val rfl (run_assign (v := errV ad _) rfl) ?_
    refine lw_nil ?_
    refine cw_ret ?_
    refine res1 (v := errV ad _) rfl rfl ?_
    have hc : ¬ (lost = true ∧ x = 107) := by simp [h22]
    simp only [if_neg hc]
    exact ⟨_, rfl, rfl, hs.arr [0, 1] 5 (by decide)⟩
  · intro h22
    replace h22 := not_c h22
    refine lw_on rfl rfl (not_f h22) ?_
    refine lw_val rfl (run_move (v := errV ad _) rfl) ?_
    refine lw_on rfl rfl (not_f h22) ?_
    refine lw_val rfl (run_load Tryz.underlying30 rfl rfl (hE.cellW hs 107 (by decide) rfl)) ?_
    refine lw_on rfl rfl (not_f h22) ?_
    refine lw_val rfl (run_neerr (hE.atW hs) hx m107 (c := x) (d := 107) rfl rfl) ?_
    refine lw_val rfl (run_pickF (v := .bool _) rfl (not_f h22) rfl) ?_
    refine lw_nil ?_
    refine cw_if rfl ?_ ?_
    · intro h29
      have g29 := ne_t h29
      refine cw_seq ?_
      refine cw_region ?_
      refine lw_val rfl (run_move (v := errV ad _) rfl) ?_
      refine lw_val rfl (run_assign (v := errV ad _) rfl) ?_
      refine lw_nil ?_
      refine cw_ret ?_
      refine res1 (v := errV ad _) rfl rfl ?_
      have hc : ¬ (lost = true ∧ x = 107) := fun h => g29 h.2
      simp only [if_neg hc]
      exact ⟨_, rfl, rfl, hs.arr [0, 1] 5 (by decide)⟩
    · intro h29
      have g29 := ne_f h29
      refine cw_skip ?_
      refine cw_seq ?_
      refine cw_region ?_
      refine lw_val rfl (run_load Tryz.underlying28 rfl rfl (hs.cellAt 4 rfl rfl)) ?_
      refine lw_val rfl (run_move (v := .string _) rfl) ?_
      refine lw_call rfl en69 (clHead_sl hE hst.2.2.1 ⟨by omega, by omega⟩ ht hs (by omega) (by omega) hq) ?_
      clear hs
      rintro _ w ⟨rfl, hs⟩
      refine lw_val rfl (run_move (v := .tuple _) rfl) ?_
      refine lw_val rfl (run_extract (v := .int .i64 _) rfl rfl) ?_
      refine lw_val rfl (run_extract (v := .int .u32 _) rfl rfl) ?_
      refine lw_val rfl (run_extract (v := errV ad _) rfl rfl) ?_
      refine lw_val rfl (run_assign (v := .int .i64 _) rfl) ?_
      refine lw_val rfl (run_assign (v := .int .u32 _) rfl) ?_
      refine lw_val rfl (run_assign (v := errV ad _) rfl) ?_
      refine lw_nil ?_
      refine cw_seq ?_
      refine cw_block ?_
      refine cw_seq ?_
      refine cw_region ?_
      refine lw_val rfl (run_move (v := errV ad _) rfl) ?_
      refine lw_val rfl (run_load Tryz.underlying30 rfl rfl (hE.cellW hs 111 (by decide) rfl)) ?_
      refine lw_val rfl (run_eqerr (hE.atW hs) hy m111 (c := y) (d := 111) rfl rfl) ?_
      refine lw_val rfl (run_assign (v := .bool _) rfl) ?_
      refine lw_nil ?_
      refine cw_if rfl ?_ ?_
      · intro h42
        have g42 := of_decide_eq_true h42
        refine cw_seq ?_
        refine cw_region ?_
        refine lw_val rfl (run_move (v := errV ad _) rfl) ?_
        refine lw_val rfl (run_assign (v := errV ad _) rfl) ?_
        refine lw_nil ?_
        refine cw_ret ?_
        refine res1 (v := errV ad _) rfl rfl ?_
        have hc : lost = true ∧ x = 107 := ⟨h22, g29⟩
        simp only [if_pos hc, if_pos g42]
        exact ⟨_, rfl, by rw [g42], by simpa [Int.add_assoc] using hs.arr [0, 1] 5 (by decide)⟩
      · intro h42
        have g42 := of_decide_eq_false h42
        refine cw_seq ?_
        refine cw_region ?_
        refine lw_val rfl (run_move (v := errV ad _) rfl) ?_
        refine lw_val rfl (run_eqerrn (ad := ad) rfl) ?_
        refine lw_val rfl (run_move (v := .bool _) rfl) ?_
        refine lw_split (t := _) (d := 47) rfl ?_ ?_
        · intro h46
          have g46 := of_decide_eq_true h46
          refine lw_on rfl rfl h46 ?_
          refine lw_val rfl (run_move (v := .int .i64 _) rfl) ?_
          refine lw_on rfl rfl h46 ?_
          refine lw_val rfl (run_move (v := .int .i64 _) rfl) ?_
          refine lw_on rfl rfl h46 ?_
          refine lw_val rfl (run_eqi rfl rfl) ?_
          refine lw_val rfl (run_pickT (v := .bool _) rfl h46 rfl) ?_
          refine lw_val rfl (run_move (v := .bool _) rfl) ?_
          refine lw_split (t := _) (d := 52) rfl ?_ ?_
          · intro h50
            have g50 := of_decide_eq_true h50
            refine lw_on rfl rfl h50 ?_
            refine lw_val rfl (run_move (v := .int .u32 _) rfl) ?_
            refine lw_on rfl rfl h50 ?_
            refine lw_val rfl (run_move (v := .int .u32 _) rfl) ?_
            refine lw_on rfl rfl h50 ?_
            refine lw_val rfl (run_eqi rfl rfl) ?_
            refine lw_val rfl (run_pickT (v := .bool _) rfl h50 rfl) ?_
            refine lw_val rfl (run_assign (v := .bool _) rfl) ?_
            refine lw_nil ?_
            refine cw_if rfl ?_ ?_
            · intro h55
              have g55 := of_decide_eq_true h55
              refine cw_seq ?_
              refine cw_region ?_
              refine lw_val rfl (run_assign (v := .nilIface) rfl) ?_
              refine lw_nil ?_
              refine cw_ret ?_
              refine res1 (v := .nilIface) rfl rfl ?_
              have hc : lost = true ∧ x = 107 := ⟨h22, g29⟩
              simp only [if_pos hc, if_neg g42]
              rw [if_pos (by omega)]
              exact ⟨_, rfl, by rw [errV_zero], by simpa [Int.add_assoc] using hs.arr [0, 1] 5 (by decide)⟩
            · intro h55
              have g55 := of_decide_eq_false h55
              refine cw_skip ?_
              refine cw_seq ?_
              refine cw_region ?_
              refine lw_val rfl (run_move (v := errV ad _) rfl) ?_
              refine lw_val rfl (run_assign (v := errV ad _) rfl) ?_
              refine lw_nil ?_
              refine cw_ret ?_
              refine res1 (v := errV ad _) rfl rfl ?_
              have hc : lost = true ∧ x = 107 := ⟨h22, g29⟩
              simp only [if_pos hc, if_neg g42]
              rw [if_neg (by omega)]
              exact ⟨_, rfl, by rw [g29], by simpa [Int.add_assoc] using hs.arr [0, 1] 5 (by decide)⟩
          · intro h50
            have g50 := of_decide_eq_false h50
            refine lw_off rfl rfl rfl h50 ?_
            refine lw_off rfl rfl rfl h50 ?_
            refine lw_off rfl rfl rfl h50 ?_
            refine lw_val rfl (run_pickF (v := .bool _) rfl h50 rfl) ?_
            refine lw_val rfl (run_assign (v := .bool _) rfl) ?_
            refine lw_nil ?_
            refine cw_iff rfl rfl ?_
            refine cw_skip ?_
            refine cw_seq ?_
            refine cw_region ?_
            refine lw_val rfl (run_move (v := errV ad _) rfl) ?_
            refine lw_val rfl (run_assign (v := errV ad _) rfl) ?_
            refine lw_nil ?_
            refine cw_ret ?_
            refine res1 (v := errV ad _) rfl rfl ?_
            have hc : lost = true ∧ x = 107 := ⟨h22, g29⟩
            simp only [if_pos hc, if_neg g42]
            rw [if_neg (by omega)]
            exact ⟨_, rfl, by rw [g29], by simpa [Int.add_assoc] using hs.arr [0, 1] 5 (by decide)⟩
        · intro h46
          have g46 := of_decide_eq_false h46
          refine lw_off rfl rfl rfl h46 ?_
          refine lw_off rfl rfl rfl h46 ?_
          refine lw_off rfl rfl rfl h46 ?_
          refine lw_val rfl (run_pickF (v := .bool _) rfl h46 rfl) ?_
          refine lw_val rfl (run_move (v := .bool _) rfl) ?_
          refine lw_off rfl rfl rfl rfl ?_
          refine lw_off rfl rfl rfl rfl ?_
          refine lw_off rfl rfl rfl rfl ?_
          refine lw_val rfl (run_pickF (v := .bool _) rfl rfl rfl) ?_
          refine lw_val rfl (run_assign (v := .bool _) rfl) ?_
          refine lw_nil ?_
          refine cw_iff rfl rfl ?_
          refine cw_skip ?_
          refine cw_seq ?_
          refine cw_region ?_
          refine lw_val rfl (run_move (v := errV ad _) rfl) ?_
          refine lw_val rfl (run_assign (v := errV ad _) rfl) ?_
          refine lw_nil ?_
          refine cw_ret ?_
          refine res1 (v := errV ad _) rfl rfl ?_
          have hc : lost = true ∧ x = 107 := ⟨h22, g29⟩
          simp only [if_pos hc, if_neg g42]
          rw [if_neg (by omega)]
          exact ⟨_, rfl, by rw [g29], by simpa [Int.add_assoc] using hs.arr [0, 1] 5 (by decide)⟩
end Go.Proofs.YtkogkokmcmallaaGreatDoor
