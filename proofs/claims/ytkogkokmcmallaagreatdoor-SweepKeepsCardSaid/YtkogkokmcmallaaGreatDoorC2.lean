/- The client, over chunks: Put, Part, Delete, Abort, Start, Head, Complete. -/
import Derived.Test.YtkogkokmcmallaaGreatDoorC
import Derived.Test.YtkogkokmcmallaaGreatDoorT4
namespace Go.Proofs.YtkogkokmcmallaaGreatDoor
set_option linter.all false
open Go.RowKit
attribute [local irreducible] errV
variable {g w : World} {L M : List HP} {ad : Nat → Addr} {p q : Nat} {st : St}

theorem m111 : 111 ∈ coreCodes := by decide
theorem m107 : 107 ∈ coreCodes := by decide
theorem m106 : 106 ∈ coreCodes := by decide
theorem m105 : 105 ∈ coreCodes := by decide
theorem gone_sl (hE : ErrG ad g) (hs : Mem g w L) {lost : Bool} {c : Nat} (hc : c = 0 ∨ c ∈ coreCodes) : Calls Tryz.prog 173 #[.bool lost, errV ad c] w (Ret fun v w' => v = errV ad (if lost = true ∧ c = 107 then 0 else c) ∧ Mem g w' L) := by
  refine calls_cw Tryz.func173 rfl rfl ?_
  skip
  refine cw_seq ?_
  refine cw_region ?_
  refine lw_val rfl (run_assign (v := .nilIface) rfl) ?_
  refine lw_nil ?_
  refine cw_seq ?_
  refine cw_seq ?_
  refine cw_region ?_
  refine lw_val rfl (run_move (v := .bool _) rfl) ?_
  refine lw_val rfl (run_move (v := .bool _) rfl) ?_
  refine lw_split (t := _) (d := 6) rfl ?_ ?_
  · intro h0
    refine lw_on rfl rfl h0 ?_
    refine lw_val rfl (run_move (v := errV ad _) rfl) ?_
    refine lw_on rfl rfl h0 ?_
    refine lw_val rfl (run_load Tryz.underlying30 rfl rfl (hE.cellW hs 107 (by decide) rfl)) ?_
    refine lw_on rfl rfl h0 ?_
    refine lw_val rfl (run_eqerr (hE.atW hs) hc (by decide) (c := c) (d := 107) rfl rfl) ?_
    refine lw_val rfl (run_pickT (v := .bool _) rfl h0 rfl) ?_
    refine lw_nil ?_
    refine cw_if rfl ?_ ?_
    · intro h9
      have g9 := of_decide_eq_true h9
      refine cw_seq ?_
      refine cw_region ?_
      refine lw_val rfl (run_assign (v := .nilIface) rfl) ?_
      refine lw_nil ?_
      refine cw_ret ?_
      refine res1 (v := .nilIface) rfl rfl ?_
      exact ⟨_, rfl, by rw [if_pos ⟨h0, g9⟩, errV_zero], hs⟩
    · intro h9
      have g9 := of_decide_eq_false h9
      refine cw_skip ?_
      refine cw_seq ?_
      refine cw_region ?_
      refine lw_val rfl (run_move (v := errV ad _) rfl) ?_
      refine lw_val rfl (run_assign (v := errV ad _) rfl) ?_
      refine lw_nil ?_
      refine cw_ret ?_
      refine res1 (v := errV ad _) rfl rfl ?_
      exact ⟨_, rfl, by rw [if_neg (fun h => g9 h.2)], hs⟩
  · intro h0
    refine lw_off rfl rfl rfl h0 ?_
    refine lw_off rfl rfl rfl h0 ?_
    refine lw_off rfl rfl rfl h0 ?_
    refine lw_val rfl (run_pickF (v := .bool _) rfl h0 rfl) ?_
    refine lw_nil ?_
    refine cw_iff rfl rfl ?_
    refine cw_skip ?_
    refine cw_seq ?_
    refine cw_region ?_
    refine lw_val rfl (run_move (v := errV ad _) rfl) ?_
    refine lw_val rfl (run_assign (v := errV ad _) rfl) ?_
    refine lw_nil ?_
    refine cw_ret ?_
    refine res1 (v := errV ad _) rfl rfl ?_
    exact ⟨_, rfl, by rw [if_neg (by simp [h0])], hs⟩

/-! ### asking of which only the error is told -/
theorem runs_counts {good : St → Nat × St} (hgc : ∀ st, (good st).2.calls = st.calls ∧ (good st).2.failed = st.failed) (st : St) : (st.run good).2.calls = st.calls + 1 ∧ (st.run good).2.failed ≤ st.failed + 1 := by
  unfold St.run
  split
  · exact ⟨rfl, by simp only [St.begin]; split <;> omega⟩
  · obtain ⟨h1, h2⟩ := hgc st.begin
    exact ⟨by rw [h1]; rfl, by rw [h2]; simp only [St.begin]; split <;> omega⟩
theorem runs_code {good : St → Nat × St} (hg : ∀ st, (good st).1 = 0 ∨ (good st).1 ∈ coreCodes) (st : St) : (st.run good).1 = 0 ∨ (st.run good).1 ∈ coreCodes := by
  unfold St.run
  split
  · exact .inr m111
  · split
    · exact .inr m111
    · exact hg _
theorem again_err (good : St → Nat × St) (P : St → Prop) (hE : ErrG ad g) {f : FuncId} {cap : Array Value} {t : Nat} {a : Int} (ha : 0 ≤ a ∧ a < 1000000000000) (ht : t ≤ 8) (hs : Mem g w (clientC q p t a :: StoreC p st :: M)) (hcl : st.calls + 8 < 4611686018427387904) (hfl : st.failed + 8 < 4611686018427387904) (hP : P st)
    (hPs : ∀ st, P st → P (st.run good).2) (hgc : ∀ st, (good st).2.calls = st.calls ∧ (good st).2.failed = st.failed) (hgd : ∀ st, (good st).1 = 0 ∨ (good st).1 ∈ coreCodes) (hf : ∀ args w, (callFunc f args).run Tryz.prog w = .ok (.enter f args) w)
    (hdo : ∀ st a w1, st.calls < 4611686018427387904 → st.failed < 4611686018427387904 → P st → Mem g w1 (clientC q p t a :: StoreC p st :: M) → Calls Tryz.prog f cap w1 (Ret fun v w2 => v = errV ad (st.run good).1 ∧ Mem g w2 (clientC q p t a :: StoreC p (st.run good).2 :: M)))
    {lost : Bool} {x n : Nat} {st2 : St} (hk : againR (fun s => s.run good) t st = (lost, x, n, st2)) :
    Calls Tryz.prog 167 #[.pointer (some ⟨q, 0, none⟩), .func (.func f) #[] cap] w (Ret fun v w' => v = .tuple #[.bool lost, errV ad x] ∧ Mem g w' (clientC q p t (a + (n : Nat)) :: StoreC p st2 :: M)) := by
  have := again_sl (fun s => StoreC p s :: M) (fun s => s.run good) (fun n s => s.calls + n < 4611686018427387904 ∧ s.failed + n < 4611686018427387904 ∧ P s) hE ha ht hs ⟨by omega, by omega, hP⟩
    (fun n s h => ⟨by have := (runs_counts hgc s).1; omega, by have := (runs_counts hgc s).2; omega, hPs s h.2.2⟩) (fun n s _ => runs_code hgd s) hf (fun n s a w1 h hs => hdo s a w1 (by omega) (by omega) h.2.2 hs)
  rw [hk] at this
  exact this
theorem again_code {good : St → Nat × St} (hgd : ∀ st, (good st).1 = 0 ∨ (good st).1 ∈ coreCodes) : ∀ (t : Nat) (st : St), (againR (fun s => s.run good) t st).2.1 = 0 ∨ (againR (fun s => s.run good) t st).2.1 ∈ coreCodes
  | 0, _ => .inr m111
  | t + 1, st => by
    simp only [againR]
    split
    · exact again_code hgd t _
    · exact runs_code hgd st

/-! ### Part -/
theorem part1_counts (id k : Int) (b : List UInt8) (st : St) : (st.part1 id k b).2.calls = st.calls ∧ (st.part1 id k b).2.failed = st.failed := by
  unfold St.part1; split
  · exact ⟨rfl, rfl⟩
  · split <;> exact ⟨rfl, rfl⟩
theorem part1_code (id k : Int) (b : List UInt8) (st : St) : (st.part1 id k b).1 = 0 ∨ (st.part1 id k b).1 ∈ coreCodes := by
  unfold St.part1; split
  · exact .inr m107
  · split
    · exact .inr m105
    · exact .inl rfl
theorem clPartC_sl (hE : ErrG ad g) {t a : Int} {cb ib kb bb : Nat} {id k : Int} {b : List UInt8} {ba : Option Addr} {m c : Nat} (hcl : st.calls < 4611686018427387904) (hfl : st.failed < 4611686018427387904) (hs : Mem g w (clientC q p t a :: StoreC p st :: cells bb [.slice ba m c] 64 :: cells kb [.int .i64 k] 3 :: cells ib [.int .i64 id] 3 :: cells cb [.pointer (some ⟨q, 0, none⟩)] 28 :: M)) (hr : Rd g M (.slice ba m c) (bytesL b)) (hlen : b.length ≤ 1073741824) :
    Calls Tryz.prog 176 #[.pointer (some ⟨cb, 0, none⟩), .pointer (some ⟨ib, 0, none⟩), .pointer (some ⟨kb, 0, none⟩), .pointer (some ⟨bb, 0, none⟩)] w (Ret fun v w' => v = errV ad (st.run (St.part1 id k b)).1 ∧ Mem g w' (clientC q p t a :: StoreC p (st.run (St.part1 id k b)).2 :: cells bb [.slice ba m c] 64 :: cells kb [.int .i64 k] 3 :: cells ib [.int .i64 id] 3 :: cells cb [.pointer (some ⟨q, 0, none⟩)] 28 :: M)) := by
  refine calls_cw Tryz.func176 rfl rfl ?_
  skip
  refine cw_seq ?_
  refine cw_region ?_
  refine lw_val rfl (run_assign (v := .nilIface) rfl) ?_
  refine lw_nil ?_
  refine cw_seq ?_
  refine cw_drawS mixes (hs.drop 1) ?_
  intro w tr hK
  replace hs := tr _ hs
  clear tr
  refine aw_take 0 rfl (by kernel_rfl) (by kernel_rfl) (by kernel_rfl) rfl (fun w hs => run_load Tryz.underlying28 rfl rfl (hs.cellAt 4 rfl rfl)) hK ?_
  refine aw_take 1 rfl (by kernel_rfl) (by kernel_rfl) (by kernel_rfl) rfl (fun w hs => run_nilCheckP rfl) hK ?_
  refine aw_take 2 rfl (by kernel_rfl) (by kernel_rfl) (by kernel_rfl) rfl (fun w hs => run_fieldAddr (o' := 0) Tryz.underlying137 rfl sz26 rfl rfl rfl) hK ?_
  refine aw_take 3 rfl (by kernel_rfl) (by kernel_rfl) (by kernel_rfl) rfl (fun w hs => run_load Tryz.underlying26 rfl rfl (hs.cellAt 0 rfl rfl)) hK ?_
  refine aw_take 4 rfl (by kernel_rfl) (by kernel_rfl) (by kernel_rfl) rfl (fun w hs => run_load Tryz.underlying3 rfl rfl (hs.cellAt 3 rfl rfl)) hK ?_
  refine aw_take 5 rfl (by kernel_rfl) (by kernel_rfl) (by kernel_rfl) rfl (fun w hs => run_load Tryz.underlying3 rfl rfl (hs.cellAt 2 rfl rfl)) hK ?_
  refine aw_take 6 rfl (by kernel_rfl) (by kernel_rfl) (by kernel_rfl) rfl (fun w hs => run_load Tryz.underlying64 rfl rfl (hs.cellAt 1 rfl rfl)) hK ?_
  refine aw_ready [7] (by kernel_rfl) (by simp) ?_
  refine ⟨⟨_, rfl, ?_⟩, trivial⟩
  refine lw_call rfl en54 (part_sl hE (hs.pick 1 rfl) hcl hfl (id := id) (k := k) (b := b) (fun w hs => hr w (hs.suffix 5 rfl)) hlen rfl) ?_
  clear hs
  rintro _ w ⟨rfl, hs⟩
  clear hK
  have hK := hs.tail
  refine lw_nil ⟨hK, ?_⟩
  refine aw_take 8 rfl (by kernel_rfl) (by kernel_rfl) (by kernel_rfl) rfl (fun w hs => run_assign (v := errV ad _) rfl) hK ?_
  refine aw_done (by kernel_rfl) ?_
  clear hK
  refine cw_ret ?_
  refine res1 (v := errV ad _) rfl rfl ?_
  exact ⟨_, rfl, rfl, hs.arr [1, 0] 2 (by decide)⟩
theorem clPart_sl (hE : ErrG ad g) {t : Nat} {a : Int} (ha : 0 ≤ a ∧ a < 1000000000000) (ht : t ≤ 8) (hs : Mem g w (clientC q p t a :: StoreC p st :: M)) (hcl : st.calls + 8 < 4611686018427387904) (hfl : st.failed + 8 < 4611686018427387904)
    {id k : Int} {b : List UInt8} {ba : Option Addr} {m c : Nat} (hr : Rd g M (.slice ba m c) (bytesL b)) (hlen : b.length ≤ 1073741824) {lost : Bool} {x n : Nat} {st2 : St} (hk : againR (fun s => s.run (St.part1 id k b)) t st = (lost, x, n, st2)) :
    Calls Tryz.prog 77 #[.pointer (some ⟨q, 0, none⟩), .int .i64 id, .int .i64 k, .slice ba m c] w (Ret fun v w' => v = errV ad x ∧ Mem g w' (clientC q p t (a + (n : Nat)) :: StoreC p st2 :: M)) := by
  refine calls_cw Tryz.func77 rfl rfl ?_
  skip
  refine cw_seq ?_
  refine cw_region ?_
  refine lw_box (v := .pointer (some _)) hs rfl rfl ?_
  clear hs
  intro b4 w hs
  try simp only [List.set_cons_succ, List.set_cons_zero] at hs
  refine lw_box (v := .int .i64 _) hs rfl rfl ?_
  clear hs
  intro b5 w hs
  try simp only [List.set_cons_succ, List.set_cons_zero] at hs
  refine lw_box (v := .int .i64 _) hs rfl rfl ?_
  clear hs
  intro b6 w hs
  try simp only [List.set_cons_succ, List.set_cons_zero] at hs
  refine lw_box (v := .slice _ _ _) hs rfl rfl ?_
  clear hs
  intro b7 w hs
  try simp only [List.set_cons_succ, List.set_cons_zero] at hs
  refine lw_val rfl (run_assign (v := .nilIface) rfl) ?_
  refine lw_nil ?_
  refine cw_seq ?_
  replace hs := hs.arr [4, 5, 0, 1, 2, 3] 6 (by decide)
  simp only [List.filterMap, List.getElem?_cons_succ, List.getElem?_cons_zero, List.drop_succ_cons, List.drop_zero, List.cons_append, List.nil_append] at hs
  refine cw_region ?_
  refine lw_val rfl (run_load Tryz.underlying28 rfl rfl (hs.cellAt 5 rfl rfl)) ?_
  refine lw_val rfl (run_makeFunc) ?_
  refine lw_call rfl en167 (again_err (cap := #[.pointer (some ⟨b4, 0, none⟩), .pointer (some ⟨b5, 0, none⟩), .pointer (some ⟨b6, 0, none⟩), .pointer (some ⟨b7, 0, none⟩)]) (St.part1 id k b) (fun _ => True) hE ha ht hs hcl hfl trivial (fun _ _ => trivial) (part1_counts id k b) (part1_code id k b) en176 (fun s a w1 h1 h2 _ hs => clPartC_sl hE h1 h2 hs hr hlen) hk) ?_
  clear hs
  rintro _ w ⟨rfl, hs⟩
  refine lw_val rfl (run_move (v := .tuple _) rfl) ?_
  refine lw_val rfl (run_extract (v := .bool _) rfl rfl) ?_
  refine lw_val rfl (run_extract (v := errV ad _) rfl rfl) ?_
  refine lw_val rfl (run_assign (v := .bool _) rfl) ?_
  refine lw_val rfl (run_assign (v := errV ad _) rfl) ?_
  refine lw_nil ?_
  refine cw_seq ?_
  refine cw_region ?_
  refine lw_val rfl (run_move (v := errV ad _) rfl) ?_
  refine lw_val rfl (run_assign (v := errV ad _) rfl) ?_
  refine lw_nil ?_
  refine cw_ret ?_
  refine res1 (v := errV ad _) rfl rfl ?_
  exact ⟨_, rfl, rfl, hs.arr [0, 1] 6 (by decide)⟩

/-! ### Delete, Abort -/
theorem del1_counts (n : ByteArray) (st : St) : (st.del1 n).2.calls = st.calls ∧ (st.del1 n).2.failed = st.failed := by unfold St.del1; split <;> exact ⟨rfl, rfl⟩
theorem del1_code (n : ByteArray) (st : St) : (st.del1 n).1 = 0 ∨ (st.del1 n).1 ∈ coreCodes := by
  unfold St.del1; split
  · exact .inl rfl
  · exact .inr m107
theorem clDelC_sl (hE : ErrG ad g) {t a : Int} {cb nb : Nat} {n : ByteArray} (hcl : st.calls < 4611686018427387904) (hfl : st.failed < 4611686018427387904) (hs : Mem g w (clientC q p t a :: StoreC p st :: cells nb [.string n] 9 :: cells cb [.pointer (some ⟨q, 0, none⟩)] 28 :: M)) :
    Calls Tryz.prog 174 #[.pointer (some ⟨cb, 0, none⟩), .pointer (some ⟨nb, 0, none⟩)] w (Ret fun v w' => v = errV ad (st.run (St.del1 n)).1 ∧ Mem g w' (clientC q p t a :: StoreC p (st.run (St.del1 n)).2 :: cells nb [.string n] 9 :: cells cb [.pointer (some ⟨q, 0, none⟩)] 28 :: M)) := by
  refine calls_cw Tryz.func174 rfl rfl ?_
  skip
  refine cw_seq ?_
  refine cw_region ?_
  refine lw_val rfl (run_assign (v := .nilIface) rfl) ?_
  refine lw_nil ?_
  refine cw_seq ?_
  refine cw_drawS mixes (hs.drop 1) ?_
  intro w tr hK
  replace hs := tr _ hs
  clear tr
  refine aw_take 0 rfl (by kernel_rfl) (by kernel_rfl) (by kernel_rfl) rfl (fun w hs => run_load Tryz.underlying28 rfl rfl (hs.cellAt 2 rfl rfl)) hK ?_
  refine aw_take 1 rfl (by kernel_rfl) (by kernel_rfl) (by kernel_rfl) rfl (fun w hs => run_nilCheckP rfl) hK ?_
  refine aw_take 2 rfl (by kernel_rfl) (by kernel_rfl) (by kernel_rfl) rfl (fun w hs => run_fieldAddr (o' := 0) Tryz.underlying137 rfl sz26 rfl rfl rfl) hK ?_
  refine aw_take 3 rfl (by kernel_rfl) (by kernel_rfl) (by kernel_rfl) rfl (fun w hs => run_load Tryz.underlying26 rfl rfl (hs.cellAt 0 rfl rfl)) hK ?_
  refine aw_take 4 rfl (by kernel_rfl) (by kernel_rfl) (by kernel_rfl) rfl (fun w hs => run_load Tryz.underlying9 rfl rfl (hs.cellAt 1 rfl rfl)) hK ?_
  refine aw_ready [5] (by kernel_rfl) (by simp) ?_
  refine ⟨⟨_, rfl, ?_⟩, trivial⟩
  refine lw_call rfl en51 (del_sl hE (hs.pick 1 rfl) hcl hfl n rfl) ?_
  clear hs
  rintro _ w ⟨rfl, hs⟩
  clear hK
  have hK := hs.tail
  refine lw_nil ⟨hK, ?_⟩
  refine aw_take 6 rfl (by kernel_rfl) (by kernel_rfl) (by kernel_rfl) rfl (fun w hs => run_assign (v := errV ad _) rfl) hK ?_
  refine aw_done (by kernel_rfl) ?_
  clear hK
  refine cw_ret ?_
  refine res1 (v := errV ad _) rfl rfl ?_
  exact ⟨_, rfl, rfl, hs.arr [1, 0] 2 (by decide)⟩
theorem clDel_sl (hE : ErrG ad g) {t : Nat} {a : Int} (ha : 0 ≤ a ∧ a < 1000000000000) (ht : t ≤ 8) (hs : Mem g w (clientC q p t a :: StoreC p st :: M)) (hcl : st.calls + 8 < 4611686018427387904) (hfl : st.failed + 8 < 4611686018427387904)
    {nm : ByteArray} {lost : Bool} {x n : Nat} {st2 : St} (hk : againR (fun s => s.run (St.del1 nm)) t st = (lost, x, n, st2)) :
    Calls Tryz.prog 73 #[.pointer (some ⟨q, 0, none⟩), .string nm] w (Ret fun v w' => v = errV ad (if lost = true ∧ x = 107 then 0 else x) ∧ Mem g w' (clientC q p t (a + (n : Nat)) :: StoreC p st2 :: M)) := by
  have hx := again_code (good := St.del1 nm) (del1_code nm) t st
  rw [hk] at hx
  refine calls_cw Tryz.func73 rfl rfl ?_
  skip
  refine cw_seq ?_
  refine cw_region ?_
  refine lw_box (v := .pointer (some _)) hs rfl rfl ?_
  clear hs
  intro b2 w hs
  try simp only [List.set_cons_succ, List.set_cons_zero] at hs
  refine lw_box (v := .string _) hs rfl rfl ?_
  clear hs
  intro b3 w hs
  try simp only [List.set_cons_succ, List.set_cons_zero] at hs
  refine lw_val rfl (run_assign (v := .nilIface) rfl) ?_
  refine lw_nil ?_
  refine cw_seq ?_
  replace hs := hs.arr [2, 3, 0, 1] 4 (by decide)
  simp only [List.filterMap, List.getElem?_cons_succ, List.getElem?_cons_zero, List.drop_succ_cons, List.drop_zero, List.cons_append, List.nil_append] at hs
  refine cw_region ?_
  refine lw_val rfl (run_load Tryz.underlying28 rfl rfl (hs.cellAt 3 rfl rfl)) ?_
  refine lw_val rfl (run_makeFunc) ?_
  refine lw_call rfl en167 (again_err (cap := #[.pointer (some ⟨b2, 0, none⟩), .pointer (some ⟨b3, 0, none⟩)]) (St.del1 nm) (fun _ => True) hE ha ht hs hcl hfl trivial (fun _ _ => trivial) (del1_counts nm) (del1_code nm) en174 (fun s a w1 h1 h2 _ hs => clDelC_sl hE h1 h2 hs) hk) ?_
  clear hs
  rintro _ w ⟨rfl, hs⟩
  refine lw_val rfl (run_extract (v := .bool _) rfl rfl) ?_
  refine lw_val rfl (run_extract (v := errV ad _) rfl rfl) ?_
  refine lw_call rfl en173 (gone_sl hE hs (lost := lost) (c := x) hx) ?_
  clear hs
  rintro _ w ⟨rfl, hs⟩
  refine lw_val rfl (run_assign (v := errV ad _) rfl) ?_
  refine lw_nil ?_
  refine cw_ret ?_
  refine res1 (v := errV ad _) rfl rfl ?_
  exact ⟨_, rfl, rfl, hs.arr [0, 1] 4 (by decide)⟩
theorem abort1_counts (id : Int) (st : St) : (st.abort1 id).2.calls = st.calls ∧ (st.abort1 id).2.failed = st.failed := by unfold St.abort1; split <;> exact ⟨rfl, rfl⟩
theorem abort1_code (id : Int) (st : St) : (st.abort1 id).1 = 0 ∨ (st.abort1 id).1 ∈ coreCodes := by
  unfold St.abort1; split
  · exact .inl rfl
  · exact .inr m107
theorem clAbortC_sl (hE : ErrG ad g) {t a : Int} {cb ib : Nat} {id : Int} (hcl : st.calls < 4611686018427387904) (hfl : st.failed < 4611686018427387904) (hs : Mem g w (clientC q p t a :: StoreC p st :: cells ib [.int .i64 id] 3 :: cells cb [.pointer (some ⟨q, 0, none⟩)] 28 :: M)) :
    Calls Tryz.prog 178 #[.pointer (some ⟨cb, 0, none⟩), .pointer (some ⟨ib, 0, none⟩)] w (Ret fun v w' => v = errV ad (st.run (St.abort1 id)).1 ∧ Mem g w' (clientC q p t a :: StoreC p (st.run (St.abort1 id)).2 :: cells ib [.int .i64 id] 3 :: cells cb [.pointer (some ⟨q, 0, none⟩)] 28 :: M)) := by
  refine calls_cw Tryz.func178 rfl rfl ?_
  skip
  refine cw_seq ?_
  refine cw_region ?_
  refine lw_val rfl (run_assign (v := .nilIface) rfl) ?_
  refine lw_nil ?_
  refine cw_seq ?_
  refine cw_drawS mixes (hs.drop 1) ?_
  intro w tr hK
  replace hs := tr _ hs
  clear tr
  refine aw_take 0 rfl (by kernel_rfl) (by kernel_rfl) (by kernel_rfl) rfl (fun w hs => run_load Tryz.underlying28 rfl rfl (hs.cellAt 2 rfl rfl)) hK ?_
  refine aw_take 1 rfl (by kernel_rfl) (by kernel_rfl) (by kernel_rfl) rfl (fun w hs => run_nilCheckP rfl) hK ?_
  refine aw_take 2 rfl (by kernel_rfl) (by kernel_rfl) (by kernel_rfl) rfl (fun w hs => run_fieldAddr (o' := 0) Tryz.underlying137 rfl sz26 rfl rfl rfl) hK ?_
  refine aw_take 3 rfl (by kernel_rfl) (by kernel_rfl) (by kernel_rfl) rfl (fun w hs => run_load Tryz.underlying26 rfl rfl (hs.cellAt 0 rfl rfl)) hK ?_
  refine aw_take 4 rfl (by kernel_rfl) (by kernel_rfl) (by kernel_rfl) rfl (fun w hs => run_load Tryz.underlying3 rfl rfl (hs.cellAt 1 rfl rfl)) hK ?_
  refine aw_ready [5] (by kernel_rfl) (by simp) ?_
  refine ⟨⟨_, rfl, ?_⟩, trivial⟩
  refine lw_call rfl en58 (abort_sl hE (hs.pick 1 rfl) hcl hfl (id := id) rfl) ?_
  clear hs
  rintro _ w ⟨rfl, hs⟩
  clear hK
  have hK := hs.tail
  refine lw_nil ⟨hK, ?_⟩
  refine aw_take 6 rfl (by kernel_rfl) (by kernel_rfl) (by kernel_rfl) rfl (fun w hs => run_assign (v := errV ad _) rfl) hK ?_
  refine aw_done (by kernel_rfl) ?_
  clear hK
  refine cw_ret ?_
  refine res1 (v := errV ad _) rfl rfl ?_
  exact ⟨_, rfl, rfl, hs.arr [1, 0] 2 (by decide)⟩
theorem clAbort_sl (hE : ErrG ad g) {t : Nat} {a : Int} (ha : 0 ≤ a ∧ a < 1000000000000) (ht : t ≤ 8) (hs : Mem g w (clientC q p t a :: StoreC p st :: M)) (hcl : st.calls + 8 < 4611686018427387904) (hfl : st.failed + 8 < 4611686018427387904)
    {id : Int} {lost : Bool} {x n : Nat} {st2 : St} (hk : againR (fun s => s.run (St.abort1 id)) t st = (lost, x, n, st2)) :
    Calls Tryz.prog 81 #[.pointer (some ⟨q, 0, none⟩), .int .i64 id] w (Ret fun v w' => v = errV ad (if lost = true ∧ x = 107 then 0 else x) ∧ Mem g w' (clientC q p t (a + (n : Nat)) :: StoreC p st2 :: M)) := by
  have hx := again_code (good := St.abort1 id) (abort1_code id) t st
  rw [hk] at hx
  refine calls_cw Tryz.func81 rfl rfl ?_
  skip
  refine cw_seq ?_
  refine cw_region ?_
  refine lw_box (v := .pointer (some _)) hs rfl rfl ?_
  clear hs
  intro b2 w hs
  try simp only [List.set_cons_succ, List.set_cons_zero] at hs
  refine lw_box (v := .int .i64 _) hs rfl rfl ?_
  clear hs
  intro b3 w hs
  try simp only [List.set_cons_succ, List.set_cons_zero] at hs
  refine lw_val rfl (run_assign (v := .nilIface) rfl) ?_
  refine lw_nil ?_
  refine cw_seq ?_
  replace hs := hs.arr [2, 3, 0, 1] 4 (by decide)
  simp only [List.filterMap, List.getElem?_cons_succ, List.getElem?_cons_zero, List.drop_succ_cons, List.drop_zero, List.cons_append, List.nil_append] at hs
  refine cw_region ?_
  refine lw_val rfl (run_load Tryz.underlying28 rfl rfl (hs.cellAt 3 rfl rfl)) ?_
  refine lw_val rfl (run_makeFunc) ?_
  refine lw_call rfl en167 (again_err (cap := #[.pointer (some ⟨b2, 0, none⟩), .pointer (some ⟨b3, 0, none⟩)]) (St.abort1 id) (fun _ => True) hE ha ht hs hcl hfl trivial (fun _ _ => trivial) (abort1_counts id) (abort1_code id) en178 (fun s a w1 h1 h2 _ hs => clAbortC_sl hE h1 h2 hs) hk) ?_
  clear hs
  rintro _ w ⟨rfl, hs⟩
  refine lw_val rfl (run_extract (v := .bool _) rfl rfl) ?_
  refine lw_val rfl (run_extract (v := errV ad _) rfl rfl) ?_
  refine lw_call rfl en173 (gone_sl hE hs (lost := lost) (c := x) hx) ?_
  clear hs
  rintro _ w ⟨rfl, hs⟩
  refine lw_val rfl (run_assign (v := errV ad _) rfl) ?_
  refine lw_nil ?_
  refine cw_ret ?_
  refine res1 (v := errV ad _) rfl rfl ?_
  exact ⟨_, rfl, rfl, hs.arr [0, 1] 4 (by decide)⟩
end Go.Proofs.YtkogkokmcmallaaGreatDoor
