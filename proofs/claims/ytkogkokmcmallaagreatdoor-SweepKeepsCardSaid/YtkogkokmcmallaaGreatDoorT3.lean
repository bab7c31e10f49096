/- The store, over chunks: Start, Part, Abort. -/
import Derived.Test.YtkogkokmcmallaaGreatDoorT2
namespace Go.Proofs.YtkogkokmcmallaaGreatDoor
set_option linter.all false
open Go.RowKit
attribute [local irreducible] errV
variable {g w : World} {L M : List HP} {ad : Nat → Addr} {p : Nat} {st : St}

theorem Mem.openU {e : Nat × Nat} {u : Up} (hs : Mem g w (upC e u :: L)) : ∃ ps, Mem g w (cells e.1 [.string u.name, .map (some e.2)] 148 :: mapI e.2 ps :: partsC ps u.parts :: L) := by
  obtain ⟨ps, h⟩ := hs.unex
  exact ⟨ps, h.unstars⟩
theorem Mem.closeU {ub pm : Nat} {u : Up} {ps : List (Int × Value)} (hs : Mem g w (cells ub [.string u.name, .map (some pm)] 148 :: mapI pm ps :: partsC ps u.parts :: L)) : Mem g w (upC (ub, pm) u :: L) :=
  Mem.ex (f := fun ps => Go.Proofs.YtkogkokmcmallaaGreatDoor.stars [cells ub [.string u.name, .map (some pm)] 148, mapI pm ps, partsC ps u.parts]) ps (Mem.stars (M := [cells ub [.string u.name, .map (some pm)] 148, mapI pm ps, partsC ps u.parts]) hs)
theorem up_aget (us : List (Int × Nat × Nat)) (i : Int) : aget (us.map upPtr) i = (aget us i).map fun e => .pointer (some ⟨e.1, 0, none⟩) := by
  induction us with
  | nil => rfl
  | cons e us ih =>
    obtain ⟨k, e1, e2⟩ := e
    simp only [List.map_cons, upPtr, aget]
    split
    · rfl
    · exact ih
theorem up_aput (us : List (Int × Nat × Nat)) (i : Int) (e : Nat × Nat) : (aput us i e).map upPtr = aput (us.map upPtr) i (.pointer (some ⟨e.1, 0, none⟩)) := by
  induction us with
  | nil => rfl
  | cons x us ih =>
    obtain ⟨k, e1, e2⟩ := x
    simp only [List.map_cons, upPtr, aput]
    split
    · simp [upPtr]
    · simp only [List.map_cons, ih]; rfl
theorem up_adel (us : List (Int × Nat × Nat)) (i : Int) : (adel us i).map upPtr = adel (us.map upPtr) i := by
  induction us with
  | nil => rfl
  | cons x us ih =>
    obtain ⟨k, e1, e2⟩ := x
    simp only [List.map_cons, upPtr, adel]
    split
    · rfl
    · simp only [List.map_cons, ih]; rfl
theorem up_keys (us : List (Int × Nat × Nat)) : keysOf (us.map upPtr) = keysOf us := by simp [keysOf, upPtr, List.map_map, Function.comp_def]
/-! ### Start -/
def St.start1 (n : ByteArray) (st : St) : Nat × Int × St := if validB n.data.toList then (0, ((st.ids + 1 : Nat) : Int), { st with ids := st.ids + 1, ups := aput st.ups ((st.ids + 1 : Nat) : Int) ⟨n, []⟩ }) else (106, 0, st)
theorem startC_sl (hE : ErrG ad g) {nb sb ib : Nat} {n : ByteArray} (hid : st.ids < 4611686018427387904) (hs : Mem g w (StoreC p st :: cells ib [.int .i64 0] 3 :: cells nb [.string n] 9 :: cells sb [.pointer (some ⟨p, 0, none⟩)] 26 :: M)) :
    Calls Tryz.prog 97 #[.pointer (some ⟨nb, 0, none⟩), .pointer (some ⟨sb, 0, none⟩), .pointer (some ⟨ib, 0, none⟩)] w (Ret fun v w' => v = errV ad (st.start1 n).1 ∧ Mem g w' (StoreC p (st.start1 n).2.2 :: cells ib [.int .i64 (st.start1 n).2.1] 3 :: cells nb [.string n] 9 :: cells sb [.pointer (some ⟨p, 0, none⟩)] 26 :: M)) := by
  obtain ⟨mo, mu, sa, sn, sc, es, us, hn, hs⟩ := hs.openS
  simp only [storeParts, List.cons_append, List.nil_append] at hs
  refine calls_cw Tryz.func97 rfl rfl ?_
  skip
  refine cw_seq ?_
  refine cw_region ?_
  refine lw_val rfl (run_assign (v := .nilIface) rfl) ?_
  refine lw_nil ?_
  refine cw_seq ?_
  refine cw_seq ?_
  refine cw_region ?_
  refine lw_val rfl (run_load Tryz.underlying9 rfl rfl (hs.cellAt 7 rfl rfl)) ?_
  refine lw_call rfl en93 (valid_sl hs n) ?_
  clear hs
  rintro _ w ⟨rfl, hs⟩
  refine lw_val rfl (run_not rfl) ?_
  refine lw_nil ?_
  refine cw_if rfl ?_ ?_
  · intro h5
    replace h5 := not_b h5
    refine cw_seq ?_
    refine cw_region ?_
    refine lw_val rfl (run_load Tryz.underlying30 rfl rfl (hE.cellW hs 106 (by decide) rfl)) ?_
    refine lw_val rfl (run_assign (v := errV ad _) rfl) ?_
    refine lw_nil ?_
    refine cw_ret ?_
    refine res1 (v := errV ad _) rfl rfl ?_
    have hp : st.start1 n = (106, 0, st) := by simp [St.start1, h5]
    rw [hp]
    exact ⟨_, rfl, rfl, hs.closeS⟩
  · intro h5
    replace h5 := not_c h5
    refine cw_skip ?_
    refine cw_seq ?_
    refine cw_region ?_
    refine lw_val rfl (run_load Tryz.underlying26 rfl rfl (hs.cellAt 8 rfl rfl)) ?_
    refine lw_val rfl (run_nilCheckP rfl) ?_
    refine lw_val rfl (run_fieldAddr (o' := 2) Tryz.underlying135 rfl sz3 rfl rfl rfl) ?_
    refine lw_val rfl (run_load Tryz.underlying3 rfl rfl (hs.cellAt 0 rfl rfl)) ?_
    refine lw_val rfl (run_add64 rfl rfl rfl (inI (by omega) (by omega))) ?_
    refine lw_val rfl (run_nilCheckP rfl) ?_
    refine lw_val rfl (run_fieldAddr (o' := 2) Tryz.underlying135 rfl sz3 rfl rfl rfl) ?_
    refine lw_store (v := .int .i64 _) hs 0 rfl sz3 rfl rfl rfl rfl ?_
    clear hs
    intro w hs
    try simp only [List.set_cons_succ, List.set_cons_zero] at hs
    refine lw_nil ?_
    refine cw_seq ?_
    refine cw_region ?_
    refine lw_val rfl (run_load Tryz.underlying26 rfl rfl (hs.cellAt 8 rfl rfl)) ?_
    refine lw_val rfl (run_nilCheckP rfl) ?_
    refine lw_val rfl (run_fieldAddr (o' := 2) Tryz.underlying135 rfl sz3 rfl rfl rfl) ?_
    refine lw_val rfl (run_load Tryz.underlying3 rfl rfl (hs.cellAt 0 rfl rfl)) ?_
    refine lw_store (v := .int .i64 _) hs 6 rfl sz3 rfl rfl rfl rfl ?_
    clear hs
    intro w hs
    try simp only [List.set_cons_succ, List.set_cons_zero] at hs
    refine lw_nil ?_
    refine cw_seq ?_
    refine cw_drawS mixes (hs.drop 3) ?_
    intro w tr hK
    replace hs := tr _ hs
    clear tr
    refine aw_take 0 rfl (by kernel_rfl) (by kernel_rfl) (by kernel_rfl) rfl (fun w hs => run_load Tryz.underlying26 rfl rfl (hs.cellAt 7 rfl rfl)) hK ?_
    refine aw_take 1 rfl (by kernel_rfl) (by kernel_rfl) (by kernel_rfl) rfl (fun w hs => run_nilCheckP rfl) hK ?_
    refine aw_take 2 rfl (by kernel_rfl) (by kernel_rfl) (by kernel_rfl) rfl (fun w hs => run_fieldAddr (o' := 1) Tryz.underlying135 rfl sz133 rfl rfl rfl) hK ?_
    refine aw_take 3 rfl (by kernel_rfl) (by kernel_rfl) (by kernel_rfl) rfl (fun w hs => run_load Tryz.underlying133 rfl rfl (hs.cellAt 0 rfl rfl)) hK ?_
    refine aw_take 4 rfl (by kernel_rfl) (by kernel_rfl) (by kernel_rfl) rfl (fun w hs => run_load Tryz.underlying3 rfl rfl (hs.cellAt 5 rfl rfl)) hK ?_
    refine aw_take 5 rfl (by kernel_rfl) (by kernel_rfl) (by kernel_rfl) rfl (fun w hs => run_load Tryz.underlying9 rfl rfl (hs.cellAt 6 rfl rfl)) hK ?_
    refine aw_ready [6] (by kernel_rfl) (by simp) ?_
    refine ⟨⟨_, rfl, ?_⟩, trivial⟩
    refine lw_makeMap (Value.int .i64) hs rfl ?_
    clear hs
    intro m25 w hs
    try simp only [List.set_cons_succ, List.set_cons_zero] at hs
    clear hK
    have hK := hs.tail.drop 3
    refine lw_nil ⟨hK, ?_⟩
    refine aw_take 7 rfl (by kernel_rfl) (by kernel_rfl) (by kernel_rfl) rfl (fun w hs => run_buildF ([.string n, .map (some m25)]) Tryz.underlying148 ze148 pl148 rfl (by simp [Value.cells]) rfl rfl) hK ?_
    refine aw_ready [8] (by kernel_rfl) (by simp) ?_
    refine ⟨⟨_, rfl, ?_⟩, trivial⟩
    refine lw_box (v := .agg _) hs rfl rfl ?_
    clear hs
    intro b27 w hs
    clear hK
    have hK := hs.tail.tail.drop 3
    refine lw_nil ⟨hK, ?_⟩
    refine aw_ready [9] (by kernel_rfl) (by simp) ?_
    refine ⟨⟨_, rfl, ?_⟩, trivial⟩
    refine lw_mapUpdate (v := .pointer (some _)) hs 5 rfl intKind Tryz.underlying133 Tryz.underlying3 rfl rfl rfl ?_
    clear hs
    intro w hs
    try simp only [List.set_cons_succ, List.set_cons_zero] at hs
    clear hK
    have hK := hs.tail.tail.drop 3
    refine lw_nil ⟨hK, ?_⟩
    refine aw_done (by kernel_rfl) ?_
    clear hK
    refine cw_seq ?_
    refine cw_region ?_
    refine lw_val rfl (run_assign (v := .nilIface) rfl) ?_
    refine lw_nil ?_
    refine cw_ret ?_
    refine res1 (v := .nilIface) rfl rfl ?_
    have hp : st.start1 n = (0, ((st.ids + 1 : Nat) : Int), { st with ids := st.ids + 1, ups := aput st.ups ((st.ids + 1 : Nat) : Int) ⟨n, []⟩ }) := by simp [St.start1, h5]
    rw [hp]
    have hu := Mem.closeU (u := ⟨n, []⟩) ((hs.addE (famC_nil (R := rdB) (κ := Int) _)).arr [1, 2, 0] 3 (by decide))
    have hf := Mem.famPut (R := upC) (k := ((st.ids + 1 : Nat) : Int)) hu 4 rfl (fun _ h => False.elim h)
    exact ⟨_, rfl, (errV_zero ad).symm, Mem.closeS (st := { st with ids := st.ids + 1, ups := aput st.ups ((st.ids + 1 : Nat) : Int) ⟨n, []⟩ }) (mo := mo) (mu := mu) (sv := .slice sa sn sc) (es := es) (us := aput us ((st.ids + 1 : Nat) : Int) (b27, m25)) (by simp only [storeParts]; rw [up_aput]; exact hf)⟩
/-- What Start tells: the id, the code; the store behind it. -/
def St.startR (n : ByteArray) (st : St) : Int × Nat × St :=
  if st.next = 1 then (0, 111, st.begin) else if st.next = 2 then (0, 111, (st.begin.start1 n).2.2) else ((st.begin.start1 n).2.1, (st.begin.start1 n).1, (st.begin.start1 n).2.2)
theorem start1_bad {n : ByteArray} {st : St} (h : (st.start1 n).1 ≠ 0) : (st.start1 n).2.1 = 0 := by
  unfold St.start1 at h ⊢
  split
  · rename_i hv; rw [if_pos hv] at h; exact absurd rfl h
  · rfl
theorem start_sl (hE : ErrG ad g) (hs : Mem g w (StoreC p st :: M)) (hid : st.ids < 4611686018427387904) (hcl : st.calls < 4611686018427387904) (hfl : st.failed < 4611686018427387904) {n : ByteArray} {x : Int} {k : Nat} {st2 : St} (hk : st.startR n = (x, k, st2)) :
    Calls Tryz.prog 18 #[.pointer (some ⟨p, 0, none⟩), .string n] w (Ret fun v w' => v = .tuple #[.int .i64 x, errV ad k] ∧ Mem g w' (StoreC p st2 :: M)) := by
  refine calls_cw Tryz.func18 rfl rfl ?_
  skip
  refine cw_seq ?_
  refine cw_region ?_
  refine lw_box (v := .pointer (some _)) hs rfl rfl ?_
  clear hs
  intro b2 w hs
  try simp only [List.set_cons_succ, List.set_cons_zero] at hs
  refine lw_box (v := .string _) hs rfl rfl ?_
  clear hs
  intro b3 w hs
  try simp only [List.set_cons_succ, List.set_cons_zero] at hs
  refine lw_val rfl (run_assign (v := .int .i64 _) rfl) ?_
  refine lw_val rfl (run_assign (v := .nilIface) rfl) ?_
  refine lw_nil ?_
  refine cw_seq ?_
  refine cw_region ?_
  refine lw_alloc hs rfl ze3 ?_
  clear hs
  intro b6 w hs
  try simp only [List.set_cons_succ, List.set_cons_zero] at hs
  refine lw_store (v := .int .i64 _) hs 0 rfl sz3 rfl rfl rfl rfl ?_
  clear hs
  intro w hs
  try simp only [List.set_cons_succ, List.set_cons_zero] at hs
  refine lw_nil ?_
  refine cw_seq ?_
  replace hs := hs.pick 3 rfl
  simp only [List.eraseIdx_cons_succ, List.eraseIdx_cons_zero] at hs
  refine cw_region ?_
  refine lw_val rfl (run_load Tryz.underlying26 rfl rfl (hs.cellAt 3 rfl rfl)) ?_
  refine lw_val rfl (run_makeFunc) ?_
  refine lw_call rfl en91 (call_sl (R := fun c w' => ∃ i s2, (if c = 0 then (i, c, s2) else (0, c, s2)) = (x, k, st2) ∧ Mem g w' (StoreC p s2 :: cells b6 [.int .i64 i] 3 :: M)) (cap := #[.pointer (some ⟨b3, 0, none⟩), .pointer (some ⟨b2, 0, none⟩), .pointer (some ⟨b6, 0, none⟩)]) hE hs hcl hfl en97 (fun h1 w1 hs => ⟨0, st.begin, by rw [← hk]; simp [St.startR, h1], hs.arr [0, 1] 4 (by decide)⟩) (fun h1 w1 hs => (startC_sl (st := st.begin) (n := n) hE hid hs).mono (by rintro e w2 ⟨v, rfl, rfl, hs⟩; refine ⟨_, rfl, _, rfl, hs.nil, _, _, ?_, hs.arr [0, 1] 4 (by decide)⟩; rw [← hk]; by_cases h2 : st.next = 2 <;> simp only [St.startR, h1, h2, if_true, if_false] <;> (by_cases h3 : (st.begin.start1 n).1 = 0 <;> simp [h3]; try exact (start1_bad h3).symm)))) ?_
  clear hs
  rintro _ w ⟨c10, rfl, i10, s10, hh, hs⟩
  refine lw_val rfl (run_assign (v := errV ad _) rfl) ?_
  refine lw_nil ?_
  refine cw_seq ?_
  refine cw_seq ?_
  refine cw_region ?_
  refine lw_val rfl (run_move (v := errV ad _) rfl) ?_
  refine lw_val rfl (run_neerrn (ad := ad) rfl) ?_
  refine lw_nil ?_
  refine cw_if rfl ?_ ?_
  · intro h12
    have g12 := ne_t h12
    refine cw_seq ?_
    refine cw_region ?_
    refine lw_val rfl (run_move (v := errV ad _) rfl) ?_
    refine lw_val rfl (run_assign (v := .int .i64 _) rfl) ?_
    refine lw_val rfl (run_assign (v := errV ad _) rfl) ?_
    refine lw_nil ?_
    refine cw_ret ?_
    refine res2 (v := .int .i64 _) (v2 := errV ad _) rfl rfl rfl ?_
    rw [if_neg g12] at hh
    simp only [Prod.mk.injEq] at hh
    obtain ⟨rfl, rfl, rfl⟩ := hh
    exact ⟨_, rfl, rfl, hs.drop 1⟩
  · intro h12
    have g12 := ne_f h12
    refine cw_skip ?_
    refine cw_seq ?_
    refine cw_region ?_
    refine lw_val rfl (run_load Tryz.underlying3 rfl rfl (hs.cellAt 1 rfl rfl)) ?_
    refine lw_val rfl (run_assign (v := .int .i64 _) rfl) ?_
    refine lw_val rfl (run_assign (v := .nilIface) rfl) ?_
    refine lw_nil ?_
    refine cw_ret ?_
    refine res2 (v := .int .i64 _) (v2 := .nilIface) rfl rfl rfl ?_
    rw [if_pos g12] at hh
    simp only [Prod.mk.injEq] at hh
    obtain ⟨rfl, rfl, rfl⟩ := hh
    exact ⟨_, rfl, by rw [g12, errV_zero], hs.drop 1⟩

/-! ### Part -/
def St.part1 (id k : Int) (b : List UInt8) (st : St) : Nat × St := match aget st.ups id with
  | none => (107, st)
  | some u => if k < 0 ∨ 256 ≤ k then (105, st) else (0, { st with ups := aput st.ups id { u with parts := aput u.parts k b } })
theorem partC_sl (hE : ErrG ad g) {sb ib kb bb : Nat} {id k : Int} {b : List UInt8} {a : Option Addr} {m c : Nat} (hs : Mem g w (StoreC p st :: cells bb [.slice a m c] 64 :: cells kb [.int .i64 k] 3 :: cells ib [.int .i64 id] 3 :: cells sb [.pointer (some ⟨p, 0, none⟩)] 26 :: M)) (hr : Rd g M (.slice a m c) (bytesL b)) (hlen : b.length ≤ 1073741824) :
    Calls Tryz.prog 160 #[.pointer (some ⟨sb, 0, none⟩), .pointer (some ⟨ib, 0, none⟩), .pointer (some ⟨kb, 0, none⟩), .pointer (some ⟨bb, 0, none⟩)] w (Ret fun v w' => v = errV ad (st.part1 id k b).1 ∧ Mem g w' (StoreC p (st.part1 id k b).2 :: cells bb [.slice a m c] 64 :: cells kb [.int .i64 k] 3 :: cells ib [.int .i64 id] 3 :: cells sb [.pointer (some ⟨p, 0, none⟩)] 26 :: M)) := by
  obtain ⟨mo, mu, sa, sn, sc, es, us, hn, hs⟩ := hs.openS
  simp only [storeParts, List.cons_append, List.nil_append] at hs
  have hky := hs.famKeys 4 rfl
  cases ho : aget st.ups id with
  | none =>
    have he : aget (us.map upPtr) id = none := by rw [up_aget, fam_none hky ho]; rfl
    have hp : st.part1 id k b = (107, st) := by simp [St.part1, ho]
    rw [hp]
    refine calls_cw Tryz.func160 rfl rfl ?_
    skip
    refine cw_seq ?_
    refine cw_region ?_
    refine lw_val rfl (run_assign (v := .nilIface) rfl) ?_
    refine lw_nil ?_
    refine cw_seq ?_
    refine cw_drawS mixes hs ?_
    intro w tr hK
    replace hs := tr _ hs
    clear tr
    refine aw_take 0 rfl (by kernel_rfl) (by kernel_rfl) (by kernel_rfl) rfl (fun w hs => run_load Tryz.underlying26 rfl rfl (hs.cellAt 9 rfl rfl)) hK ?_
    refine aw_take 1 rfl (by kernel_rfl) (by kernel_rfl) (by kernel_rfl) rfl (fun w hs => run_nilCheckP rfl) hK ?_
    refine aw_take 2 rfl (by kernel_rfl) (by kernel_rfl) (by kernel_rfl) rfl (fun w hs => run_fieldAddr (o' := 1) Tryz.underlying135 rfl sz133 rfl rfl rfl) hK ?_
    refine aw_take 3 rfl (by kernel_rfl) (by kernel_rfl) (by kernel_rfl) rfl (fun w hs => run_load Tryz.underlying133 rfl rfl (hs.cellAt 0 rfl rfl)) hK ?_
    refine aw_take 4 rfl (by kernel_rfl) (by kernel_rfl) (by kernel_rfl) rfl (fun w hs => run_load Tryz.underlying3 rfl rfl (hs.cellAt 8 rfl rfl)) hK ?_
    refine aw_take 5 rfl (by kernel_rfl) (by kernel_rfl) (by kernel_rfl) rfl (fun w hs => run_lookup (hs.mapAt 3 rfl) intKind Tryz.underlying133 Tryz.underlying3 ze145 rfl rfl he) hK ?_
    refine aw_take 6 rfl (by kernel_rfl) (by kernel_rfl) (by kernel_rfl) rfl (fun w hs => run_assign (v := .pointer none) rfl) hK ?_
    refine aw_done (by kernel_rfl) ?_
    clear hK
    refine cw_seq ?_
    refine cw_block ?_
    refine cw_seq ?_
    refine cw_region ?_
    refine lw_val rfl (run_move (v := .pointer none) rfl) ?_
    refine lw_val rfl (run_eqpn Tryz.underlying145 rfl rfl) ?_
    refine lw_val rfl (run_assign (v := .bool _) rfl) ?_
    refine lw_nil ?_
    refine cw_ift rfl (rfl) ?_
    refine cw_seq ?_
    refine cw_region ?_
    refine lw_val rfl (run_load Tryz.underlying30 rfl rfl (hE.cellW hs 107 (by decide) rfl)) ?_
    refine lw_val rfl (run_assign (v := errV ad _) rfl) ?_
    refine lw_nil ?_
    refine cw_ret ?_
    refine res1 (v := errV ad _) rfl rfl ?_
    exact ⟨_, rfl, rfl, hs.closeS⟩
  | some u =>
    obtain ⟨⟨ub, pm⟩, hu⟩ := fam_some hky ho
    have he : aget (us.map upPtr) id = some (.pointer (some ⟨ub, 0, none⟩)) := by rw [up_aget, hu]; rfl
    have hbad : k < 0 ∨ 256 ≤ k → st.part1 id k b = (105, st) := fun h => by simp only [St.part1, ho]; rw [if_pos h]
    refine calls_cw Tryz.func160 rfl rfl ?_
    skip
    refine cw_seq ?_
    refine cw_region ?_
    refine lw_val rfl (run_assign (v := .nilIface) rfl) ?_
    refine lw_nil ?_
    refine cw_seq ?_
    refine cw_drawS mixes hs ?_
    intro w tr hK
    replace hs := tr _ hs
    clear tr
    refine aw_take 0 rfl (by kernel_rfl) (by kernel_rfl) (by kernel_rfl) rfl (fun w hs => run_load Tryz.underlying26 rfl rfl (hs.cellAt 9 rfl rfl)) hK ?_
    refine aw_take 1 rfl (by kernel_rfl) (by kernel_rfl) (by kernel_rfl) rfl (fun w hs => run_nilCheckP rfl) hK ?_
    refine aw_take 2 rfl (by kernel_rfl) (by kernel_rfl) (by kernel_rfl) rfl (fun w hs => run_fieldAddr (o' := 1) Tryz.underlying135 rfl sz133 rfl rfl rfl) hK ?_
    refine aw_take 3 rfl (by kernel_rfl) (by kernel_rfl) (by kernel_rfl) rfl (fun w hs => run_load Tryz.underlying133 rfl rfl (hs.cellAt 0 rfl rfl)) hK ?_
    refine aw_take 4 rfl (by kernel_rfl) (by kernel_rfl) (by kernel_rfl) rfl (fun w hs => run_load Tryz.underlying3 rfl rfl (hs.cellAt 8 rfl rfl)) hK ?_
    refine aw_take 5 rfl (by kernel_rfl) (by kernel_rfl) (by kernel_rfl) rfl (fun w hs => run_lookup (hs.mapAt 3 rfl) intKind Tryz.underlying133 Tryz.underlying3 ze145 rfl rfl he) hK ?_
    refine aw_take 6 rfl (by kernel_rfl) (by kernel_rfl) (by kernel_rfl) rfl (fun w hs => run_assign (v := .pointer (some _)) rfl) hK ?_
    refine aw_done (by kernel_rfl) ?_
    clear hK
    refine cw_seq ?_
    refine cw_block ?_
    refine cw_seq ?_
    refine cw_region ?_
    refine lw_val rfl (run_move (v := .pointer (some _)) rfl) ?_
    refine lw_val rfl (run_eqpn Tryz.underlying145 rfl rfl) ?_
    refine lw_val rfl (run_assign (v := .bool _) rfl) ?_
    refine lw_nil ?_
    refine cw_iff rfl rfl ?_
    refine cw_seq ?_
    refine cw_region ?_
    refine lw_val rfl (run_load Tryz.underlying3 rfl rfl (hs.cellAt 7 rfl rfl)) ?_
    refine lw_val rfl (run_lss rfl rfl) ?_
    refine lw_val rfl (run_move (v := .bool _) rfl) ?_
    refine lw_split (t := _) (d := 19) rfl ?_ ?_
    · intro h18
      have g18 := of_decide_eq_true h18
      refine lw_off rfl rfl rfl h18 ?_
      refine lw_off rfl rfl rfl h18 ?_
      refine lw_val rfl (run_pickT (v := .bool _) rfl h18 rfl) ?_
      refine lw_val rfl (run_assign (v := .bool _) rfl) ?_
      refine lw_nil ?_
      refine cw_ift rfl rfl ?_
      refine cw_seq ?_
      refine cw_region ?_
      refine lw_val rfl (run_load Tryz.underlying30 rfl rfl (hE.cellW hs 105 (by decide) rfl)) ?_
      refine lw_val rfl (run_assign (v := errV ad _) rfl) ?_
      refine lw_nil ?_
      refine cw_ret ?_
      refine res1 (v := errV ad _) rfl rfl ?_
      rw [hbad (by omega)]
      exact ⟨_, rfl, rfl, hs.closeS⟩
    · intro h18
      have g18 := of_decide_eq_false h18
      refine lw_on rfl rfl h18 ?_
      refine lw_val rfl (run_load Tryz.underlying3 rfl rfl (hs.cellAt 7 rfl rfl)) ?_
      refine lw_on rfl rfl h18 ?_
      refine lw_val rfl (run_geq rfl rfl) ?_
      refine lw_val rfl (run_pickF (v := .bool _) rfl h18 rfl) ?_
      refine lw_val rfl (run_assign (v := .bool _) rfl) ?_
      refine lw_nil ?_
      refine cw_if rfl ?_ ?_
      · intro h21
        have g21 := of_decide_eq_true h21
        refine cw_seq ?_
        refine cw_region ?_
        refine lw_val rfl (run_load Tryz.underlying30 rfl rfl (hE.cellW hs 105 (by decide) rfl)) ?_
        refine lw_val rfl (run_assign (v := errV ad _) rfl) ?_
        refine lw_nil ?_
        refine cw_ret ?_
        refine res1 (v := errV ad _) rfl rfl ?_
        rw [hbad (by omega)]
        exact ⟨_, rfl, rfl, hs.closeS⟩
      · intro h21
        have g21 := of_decide_eq_false h21
        refine cw_skip ?_
        refine cw_seq ?_
        obtain ⟨ps, hs⟩ := (hs.famTake 4 rfl hu ho).openU
        simp only [List.set_cons_succ, List.set_cons_zero] at hs
        refine cw_drawS mixes (hs.drop 1) ?_
        intro w tr hK
        replace hs := tr _ hs
        clear tr
        refine aw_take 0 rfl (by kernel_rfl) (by kernel_rfl) (by kernel_rfl) rfl (fun w hs => run_move (v := .pointer (some _)) rfl) hK ?_
        refine aw_take 1 rfl (by kernel_rfl) (by kernel_rfl) (by kernel_rfl) rfl (fun w hs => run_nilCheckP rfl) hK ?_
        refine aw_take 2 rfl (by kernel_rfl) (by kernel_rfl) (by kernel_rfl) rfl (fun w hs => run_fieldAddr (o' := 1) Tryz.underlying148 rfl sz146 rfl rfl rfl) hK ?_
        refine aw_take 3 rfl (by kernel_rfl) (by kernel_rfl) (by kernel_rfl) rfl (fun w hs => run_load Tryz.underlying146 rfl rfl (hs.cellAt 0 rfl rfl)) hK ?_
        refine aw_take 4 rfl (by kernel_rfl) (by kernel_rfl) (by kernel_rfl) rfl (fun w hs => run_load Tryz.underlying3 rfl rfl (hs.cellAt 9 rfl rfl)) hK ?_
        refine aw_take 5 rfl (by kernel_rfl) (by kernel_rfl) (by kernel_rfl) rfl (fun w hs => run_load Tryz.underlying64 rfl rfl (hs.cellAt 8 rfl rfl)) hK ?_
        refine aw_ready [6] (by kernel_rfl) (by simp) ?_
        refine ⟨⟨_, rfl, ?_⟩, trivial⟩
        refine lw_call rfl en94 (clone_sl hs (l := b) (fun w hs => hr w (hs.suffix 13 rfl)) hlen) ?_
        clear hs
        rintro _ w ⟨a30, c30, rfl, hs⟩
        clear hK
        have hK := hs.tail.drop 1
        refine lw_nil ⟨hK, ?_⟩
        refine aw_ready [7] (by kernel_rfl) (by simp) ?_
        refine ⟨⟨_, rfl, ?_⟩, trivial⟩
        refine lw_mapUpdate (v := .slice _ _ _) hs 2 rfl intKind Tryz.underlying146 Tryz.underlying3 rfl rfl rfl ?_
        clear hs
        intro w hs
        try simp only [List.set_cons_succ, List.set_cons_zero] at hs
        clear hK
        have hK := hs.tail.drop 1
        refine lw_nil ⟨hK, ?_⟩
        refine aw_done (by kernel_rfl) ?_
        clear hK
        refine cw_seq ?_
        refine cw_region ?_
        refine lw_val rfl (run_assign (v := .nilIface) rfl) ?_
        refine lw_nil ?_
        refine cw_ret ?_
        refine res1 (v := .nilIface) rfl rfl ?_
        have hp : st.part1 id k b = (0, { st with ups := aput st.ups id { u with parts := aput u.parts k b } }) := by simp only [St.part1, ho]; rw [if_neg (by omega)]
        rw [hp]
        have h1 := Mem.famPut (R := rdB) (k := k) (b := b) (hs.ownRd 0 rfl) 2 rfl (fun _ h => False.elim h)
        have h2 := Mem.closeU (u := { u with parts := aput u.parts k b }) h1
        have h3 := Mem.famPut (R := upC) (k := id) h2 4 rfl (fun _ h => h)
        rw [aput_same hu] at h3
        exact ⟨_, rfl, (errV_zero ad).symm, Mem.closeS (st := { st with ups := aput st.ups id { u with parts := aput u.parts k b } }) (mo := mo) (mu := mu) (sv := .slice sa sn sc) (es := es) (us := us) h3⟩
theorem part_sl (hE : ErrG ad g) (hs : Mem g w (StoreC p st :: M)) (hcl : st.calls < 4611686018427387904) (hfl : st.failed < 4611686018427387904) {id k : Int} {b : List UInt8} {a : Option Addr} {m c : Nat} (hr : Rd g M (.slice a m c) (bytesL b)) (hlen : b.length ≤ 1073741824) {x : Nat} {st2 : St} (hk : st.run (St.part1 id k b) = (x, st2)) :
    Calls Tryz.prog 54 #[.pointer (some ⟨p, 0, none⟩), .int .i64 id, .int .i64 k, .slice a m c] w (Ret fun v w' => v = errV ad x ∧ Mem g w' (StoreC p st2 :: M)) := by
  have k1 : (st.run (St.part1 id k b)).1 = x := by rw [hk]
  have k2 : (st.run (St.part1 id k b)).2 = st2 := by rw [hk]
  subst k1 k2
  refine calls_cw Tryz.func54 rfl rfl ?_
  skip
  refine cw_seq ?_
  refine cw_region ?_
  refine lw_box (v := .pointer (some _)) hs rfl rfl ?_
  clear hs
  intro b4 w hs
  try simp only [List.set_cons_succ, List.set_cons_zero] at hs
  refine lw_box (v := .int .i64 _) hs rfl rfl ?_
  clear hs
  intro b5 w hs
  try simp only [List.set_cons_succ, List.set_cons_zero] at hs
  refine lw_box (v := .int .i64 _) hs rfl rfl ?_
  clear hs
  intro b6 w hs
  try simp only [List.set_cons_succ, List.set_cons_zero] at hs
  refine lw_box (v := .slice _ _ _) hs rfl rfl ?_
  clear hs
  intro b7 w hs
  try simp only [List.set_cons_succ, List.set_cons_zero] at hs
  refine lw_val rfl (run_assign (v := .nilIface) rfl) ?_
  refine lw_nil ?_
  refine cw_seq ?_
  replace hs := hs.pick 4 rfl
  simp only [List.eraseIdx_cons_succ, List.eraseIdx_cons_zero] at hs
  refine cw_region ?_
  refine lw_val rfl (run_load Tryz.underlying26 rfl rfl (hs.cellAt 4 rfl rfl)) ?_
  refine lw_val rfl (run_makeFunc) ?_
  refine lw_call rfl en91 (call_err (cap := #[.pointer (some ⟨b4, 0, none⟩), .pointer (some ⟨b5, 0, none⟩), .pointer (some ⟨b6, 0, none⟩), .pointer (some ⟨b7, 0, none⟩)]) hE hs hcl hfl (St.part1 id k b) en160 (fun w1 h1 => partC_sl hE h1 hr hlen)) ?_
  clear hs
  rintro _ w ⟨rfl, hs⟩
  refine lw_val rfl (run_assign (v := errV ad _) rfl) ?_
  refine lw_nil ?_
  refine cw_ret ?_
  refine res1 (v := errV ad _) rfl rfl ?_
  exact ⟨_, rfl, rfl, hs.arr [0] 5 (by decide)⟩

/-! ### Abort -/
def St.abort1 (id : Int) (st : St) : Nat × St := if (aget st.ups id).isSome then (0, { st with ups := adel st.ups id }) else (107, st)
theorem abortC_sl (hE : ErrG ad g) {sb ib : Nat} {id : Int} (hs : Mem g w (StoreC p st :: cells ib [.int .i64 id] 3 :: cells sb [.pointer (some ⟨p, 0, none⟩)] 26 :: M)) :
    Calls Tryz.prog 164 #[.pointer (some ⟨sb, 0, none⟩), .pointer (some ⟨ib, 0, none⟩)] w (Ret fun v w' => v = errV ad (st.abort1 id).1 ∧ Mem g w' (StoreC p (st.abort1 id).2 :: cells ib [.int .i64 id] 3 :: cells sb [.pointer (some ⟨p, 0, none⟩)] 26 :: M)) := by
  obtain ⟨mo, mu, sa, sn, sc, es, us, hn, hs⟩ := hs.openS
  simp only [storeParts, List.cons_append, List.nil_append] at hs
  have hky := hs.famKeys 4 rfl
  cases ho : aget st.ups id with
  | none =>
    have he : aget (us.map upPtr) id = none := by rw [up_aget, fam_none hky ho]; rfl
    have hp : st.abort1 id = (107, st) := by simp [St.abort1, ho]
    rw [hp]
    refine calls_cw Tryz.func164 rfl rfl ?_
    skip
    refine cw_seq ?_
    refine cw_region ?_
    refine lw_val rfl (run_assign (v := .nilIface) rfl) ?_
    refine lw_nil ?_
    refine cw_seq ?_
    refine cw_seq ?_
    refine cw_drawS mixes hs ?_
    intro w tr hK
    replace hs := tr _ hs
    clear tr
    refine aw_take 0 rfl (by kernel_rfl) (by kernel_rfl) (by kernel_rfl) rfl (fun w hs => run_load Tryz.underlying26 rfl rfl (hs.cellAt 7 rfl rfl)) hK ?_
    refine aw_take 1 rfl (by kernel_rfl) (by kernel_rfl) (by kernel_rfl) rfl (fun w hs => run_nilCheckP rfl) hK ?_
    refine aw_take 2 rfl (by kernel_rfl) (by kernel_rfl) (by kernel_rfl) rfl (fun w hs => run_fieldAddr (o' := 1) Tryz.underlying135 rfl sz133 rfl rfl rfl) hK ?_
    refine aw_take 3 rfl (by kernel_rfl) (by kernel_rfl) (by kernel_rfl) rfl (fun w hs => run_load Tryz.underlying133 rfl rfl (hs.cellAt 0 rfl rfl)) hK ?_
    refine aw_take 4 rfl (by kernel_rfl) (by kernel_rfl) (by kernel_rfl) rfl (fun w hs => run_load Tryz.underlying3 rfl rfl (hs.cellAt 6 rfl rfl)) hK ?_
    refine aw_take 5 rfl (by kernel_rfl) (by kernel_rfl) (by kernel_rfl) rfl (fun w hs => run_lookup (hs.mapAt 3 rfl) intKind Tryz.underlying133 Tryz.underlying3 ze145 rfl rfl he) hK ?_
    refine aw_take 6 rfl (by kernel_rfl) (by kernel_rfl) (by kernel_rfl) rfl (fun w hs => run_eqpn Tryz.underlying145 rfl rfl) hK ?_
    refine aw_done (by kernel_rfl) ?_
    clear hK
    refine cw_ift rfl (rfl) ?_
    refine cw_seq ?_
    refine cw_region ?_
    refine lw_val rfl (run_load Tryz.underlying30 rfl rfl (hE.cellW hs 107 (by decide) rfl)) ?_
    refine lw_val rfl (run_assign (v := errV ad _) rfl) ?_
    refine lw_nil ?_
    refine cw_ret ?_
    refine res1 (v := errV ad _) rfl rfl ?_
    exact ⟨_, rfl, rfl, hs.closeS⟩
  | some u =>
    obtain ⟨⟨ub, pm⟩, hu⟩ := fam_some hky ho
    have he : aget (us.map upPtr) id = some (.pointer (some ⟨ub, 0, none⟩)) := by rw [up_aget, hu]; rfl
    have hp : st.abort1 id = (0, { st with ups := adel st.ups id }) := by simp [St.abort1, ho]
    have hnd : (keysOf us).Nodup := by rw [← up_keys]; exact (hs.mapAt 3 rfl).nodup
    rw [hp]
    refine calls_cw Tryz.func164 rfl rfl ?_
    skip
    refine cw_seq ?_
    refine cw_region ?_
    refine lw_val rfl (run_assign (v := .nilIface) rfl) ?_
    refine lw_nil ?_
    refine cw_seq ?_
    refine cw_seq ?_
    refine cw_drawS mixes hs ?_
    intro w tr hK
    replace hs := tr _ hs
    clear tr
    refine aw_take 0 rfl (by kernel_rfl) (by kernel_rfl) (by kernel_rfl) rfl (fun w hs => run_load Tryz.underlying26 rfl rfl (hs.cellAt 7 rfl rfl)) hK ?_
    refine aw_take 1 rfl (by kernel_rfl) (by kernel_rfl) (by kernel_rfl) rfl (fun w hs => run_nilCheckP rfl) hK ?_
    refine aw_take 2 rfl (by kernel_rfl) (by kernel_rfl) (by kernel_rfl) rfl (fun w hs => run_fieldAddr (o' := 1) Tryz.underlying135 rfl sz133 rfl rfl rfl) hK ?_
    refine aw_take 3 rfl (by kernel_rfl) (by kernel_rfl) (by kernel_rfl) rfl (fun w hs => run_load Tryz.underlying133 rfl rfl (hs.cellAt 0 rfl rfl)) hK ?_
    refine aw_take 4 rfl (by kernel_rfl) (by kernel_rfl) (by kernel_rfl) rfl (fun w hs => run_load Tryz.underlying3 rfl rfl (hs.cellAt 6 rfl rfl)) hK ?_
    refine aw_take 5 rfl (by kernel_rfl) (by kernel_rfl) (by kernel_rfl) rfl (fun w hs => run_lookup (hs.mapAt 3 rfl) intKind Tryz.underlying133 Tryz.underlying3 ze145 rfl rfl he) hK ?_
    refine aw_take 6 rfl (by kernel_rfl) (by kernel_rfl) (by kernel_rfl) rfl (fun w hs => run_eqpn Tryz.underlying145 rfl rfl) hK ?_
    refine aw_done (by kernel_rfl) ?_
    clear hK
    refine cw_iff rfl rfl ?_
    refine cw_skip ?_
    refine cw_seq ?_
    refine cw_drawS mixes (hs.drop 3) ?_
    intro w tr hK
    replace hs := tr _ hs
    clear tr
    refine aw_take 0 rfl (by kernel_rfl) (by kernel_rfl) (by kernel_rfl) rfl (fun w hs => run_load Tryz.underlying26 rfl rfl (hs.cellAt 6 rfl rfl)) hK ?_
    refine aw_take 1 rfl (by kernel_rfl) (by kernel_rfl) (by kernel_rfl) rfl (fun w hs => run_nilCheckP rfl) hK ?_
    refine aw_take 2 rfl (by kernel_rfl) (by kernel_rfl) (by kernel_rfl) rfl (fun w hs => run_fieldAddr (o' := 1) Tryz.underlying135 rfl sz133 rfl rfl rfl) hK ?_
    refine aw_take 3 rfl (by kernel_rfl) (by kernel_rfl) (by kernel_rfl) rfl (fun w hs => run_load Tryz.underlying133 rfl rfl (hs.cellAt 0 rfl rfl)) hK ?_
    refine aw_take 4 rfl (by kernel_rfl) (by kernel_rfl) (by kernel_rfl) rfl (fun w hs => run_load Tryz.underlying3 rfl rfl (hs.cellAt 5 rfl rfl)) hK ?_
    refine aw_ready [5] (by kernel_rfl) (by simp) ?_
    refine ⟨⟨_, rfl, ?_⟩, trivial⟩
    refine lw_delete hs rfl 3 rfl intKind Tryz.underlying133 Tryz.underlying3 rfl rfl ?_
    clear hs
    intro w hs
    try simp only [List.set_cons_succ, List.set_cons_zero] at hs
    clear hK
    have hK := hs.drop 3
    refine lw_nil ⟨hK, ?_⟩
    refine aw_done (by kernel_rfl) ?_
    clear hK
    refine cw_seq ?_
    refine cw_region ?_
    refine lw_val rfl (run_assign (v := .nilIface) rfl) ?_
    refine lw_nil ?_
    refine cw_ret ?_
    refine res1 (v := .nilIface) rfl rfl ?_
    have h3 := Mem.famDel (R := upC) (k := id) hs 4 rfl hnd (fun _ h => False.elim h)
    exact ⟨_, rfl, (errV_zero ad).symm, Mem.closeS (st := { st with ups := adel st.ups id }) (mo := mo) (mu := mu) (sv := .slice sa sn sc) (es := es) (us := adel us id) (by simp only [storeParts]; rw [up_adel]; exact h3)⟩
theorem abort_sl (hE : ErrG ad g) (hs : Mem g w (StoreC p st :: M)) (hcl : st.calls < 4611686018427387904) (hfl : st.failed < 4611686018427387904) {id : Int} {x : Nat} {st2 : St} (hk : st.run (St.abort1 id) = (x, st2)) :
    Calls Tryz.prog 58 #[.pointer (some ⟨p, 0, none⟩), .int .i64 id] w (Ret fun v w' => v = errV ad x ∧ Mem g w' (StoreC p st2 :: M)) := by
  have k1 : (st.run (St.abort1 id)).1 = x := by rw [hk]
  have k2 : (st.run (St.abort1 id)).2 = st2 := by rw [hk]
  subst k1 k2
  refine calls_cw Tryz.func58 rfl rfl ?_
  skip
  refine cw_seq ?_
  refine cw_region ?_
  refine lw_box (v := .pointer (some _)) hs rfl rfl ?_
  clear hs
  intro b2 w hs
  try simp only [List.set_cons_succ, List.set_cons_zero] at hs
  refine lw_box (v := .int .i64 _) hs rfl rfl ?_
  clear hs
  intro b3 w hs
  try simp only [List.set_cons_succ, List.set_cons_zero] at hs
  refine lw_val rfl (run_assign (v := .nilIface) rfl) ?_
  refine lw_nil ?_
  refine cw_seq ?_
  replace hs := hs.pick 2 rfl
  simp only [List.eraseIdx_cons_succ, List.eraseIdx_cons_zero] at hs
  refine cw_region ?_
  refine lw_val rfl (run_load Tryz.underlying26 rfl rfl (hs.cellAt 2 rfl rfl)) ?_
  refine lw_val rfl (run_makeFunc) ?_
  refine lw_call rfl en91 (call_err (cap := #[.pointer (some ⟨b2, 0, none⟩), .pointer (some ⟨b3, 0, none⟩)]) hE hs hcl hfl (St.abort1 id) en164 (fun w1 h1 => abortC_sl hE h1)) ?_
  clear hs
  rintro _ w ⟨rfl, hs⟩
  refine lw_val rfl (run_assign (v := errV ad _) rfl) ?_
  refine lw_nil ?_
  refine cw_ret ?_
  refine res1 (v := errV ad _) rfl rfl ?_
  exact ⟨_, rfl, rfl, hs.arr [0] 3 (by decide)⟩
end Go.Proofs.YtkogkokmcmallaaGreatDoor
