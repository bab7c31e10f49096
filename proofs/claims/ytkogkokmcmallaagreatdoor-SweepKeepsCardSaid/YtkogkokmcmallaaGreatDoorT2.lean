/- The store, over chunks: Bytes, Script, Delete, Head, Get. -/
import Derived.Test.YtkogkokmcmallaaGreatDoorT
namespace Go.Proofs.YtkogkokmcmallaaGreatDoor
set_option linter.all false
open Go.RowKit
attribute [local irreducible] errV
variable {g w : World} {L M : List HP} {ad : Nat → Addr} {p : Nat} {st : St}

theorem seqV.form {v : Value} {l : List Value} (h : seqV w v l) : ∃ a c, v = .slice a l.length c := by
  obtain ⟨a, n, c, h1, h2, _⟩ := h
  exact ⟨a, c, by rw [h1, h2]⟩
section
variable {κ : Type} [DecidableEq κ] {es : List (κ × Value)} {objs : List (κ × List UInt8)} {n : κ}
/-- What is kept under a key. -/
theorem Mem.bytesAt (hs : Mem g w L) (i : Nat) (hi : L[i]? = some (famC rdB es objs)) {b : List UInt8} (ho : aget objs n = some b) : ∃ a c, aget es n = some (.slice a b.length c) ∧ Rd g L (.slice a b.length c) (bytesL b) := by
  obtain ⟨v, hv⟩ := fam_some (hs.famKeys i hi) ho
  have hr : Rd g L v (bytesL b) := Ens.fam i hi hv ho fun _ _ h => h.1
  obtain ⟨a, c, rfl⟩ := (hr.seq hs).form
  have : (bytesL b).length = b.length := by simp [bytesL]
  rw [this] at hv hr
  exact ⟨a, c, hv, hr⟩
theorem Mem.bytesNone (hs : Mem g w L) (i : Nat) (hi : L[i]? = some (famC rdB es objs)) (ho : aget objs n = none) : aget es n = none := fam_none (hs.famKeys i hi) ho
end
theorem bytes_sl (hs : Mem g w (StoreC p st :: L)) (hsm : st.small) (n : ByteArray) {o : Option (List UInt8)} (ho : aget st.objs n = o) : Calls Tryz.prog 145 #[.pointer (some ⟨p, 0, none⟩), .string n] w
    (Ret fun v w' => ∃ a c, v = .tuple #[.slice a (o.getD []).length c, .bool o.isSome] ∧ Mem g w' (own (.slice a (o.getD []).length c) (bytesL (o.getD [])) :: StoreC p st :: L)) := by
  obtain ⟨mo, mu, sa, sn, sc, es, us, hn, hs⟩ := hs.openS
  simp only [storeParts, List.cons_append, List.nil_append] at hs
  cases o with
  | none =>
    have he := hs.bytesNone 2 rfl ho
    refine calls_cw Tryz.func145 rfl rfl ?_
    skip
    refine cw_seq ?_
    refine cw_region ?_
    refine lw_val rfl (run_assign (v := .slice _ _ _) rfl) ?_
    refine lw_val rfl (run_assign (v := .bool _) rfl) ?_
    refine lw_nil ?_
    refine cw_seq ?_
    refine cw_region ?_
    refine lw_val rfl (run_move (v := .pointer (some _)) rfl) ?_
    refine lw_val rfl (run_nilCheckP rfl) ?_
    refine lw_val rfl (run_fieldAddr (o' := 0) Tryz.underlying135 rfl sz132 rfl rfl rfl) ?_
    refine lw_val rfl (run_load Tryz.underlying132 rfl rfl (hs.cellAt 0 rfl rfl)) ?_
    refine lw_val rfl (run_move (v := .string _) rfl) ?_
    refine lw_val rfl (run_lookupOk (hs.mapAt 1 rfl) strKind Tryz.underlying132 Tryz.underlying9 ze64 rfl rfl he) ?_
    refine lw_val rfl (run_move (v := .tuple _) rfl) ?_
    refine lw_val rfl (run_extract (v := .slice _ _ _) rfl rfl) ?_
    refine lw_val rfl (run_extract (v := .bool _) rfl rfl) ?_
    refine lw_val rfl (run_assign (v := .slice _ _ _) rfl) ?_
    refine lw_val rfl (run_assign (v := .bool _) rfl) ?_
    refine lw_nil ?_
    refine cw_seq ?_
    refine cw_region ?_
    refine lw_val rfl (run_move (v := .slice _ _ _) rfl) ?_
    refine lw_call rfl en94 (clone_sl hs (l := []) Rd.nil (by decide)) ?_
    clear hs
    rintro _ w ⟨a18, c18, rfl, hs⟩
    refine lw_val rfl (run_move (v := .bool _) rfl) ?_
    refine lw_val rfl (run_assign (v := .slice _ _ _) rfl) ?_
    refine lw_val rfl (run_assign (v := .bool _) rfl) ?_
    refine lw_nil ?_
    refine cw_ret ?_
    refine res2 (v := .slice _ _ _) (v2 := .bool _) rfl rfl rfl ?_
    exact ⟨_, rfl, a18, c18, rfl, hs.closeS1⟩
  | some b =>
    obtain ⟨a, c, he, hr⟩ := hs.bytesAt 2 rfl ho
    refine calls_cw Tryz.func145 rfl rfl ?_
    skip
    refine cw_seq ?_
    refine cw_region ?_
    refine lw_val rfl (run_assign (v := .slice _ _ _) rfl) ?_
    refine lw_val rfl (run_assign (v := .bool _) rfl) ?_
    refine lw_nil ?_
    refine cw_seq ?_
    refine cw_region ?_
    refine lw_val rfl (run_move (v := .pointer (some _)) rfl) ?_
    refine lw_val rfl (run_nilCheckP rfl) ?_
    refine lw_val rfl (run_fieldAddr (o' := 0) Tryz.underlying135 rfl sz132 rfl rfl rfl) ?_
    refine lw_val rfl (run_load Tryz.underlying132 rfl rfl (hs.cellAt 0 rfl rfl)) ?_
    refine lw_val rfl (run_move (v := .string _) rfl) ?_
    refine lw_val rfl (run_lookupOk (hs.mapAt 1 rfl) strKind Tryz.underlying132 Tryz.underlying9 ze64 rfl rfl he) ?_
    refine lw_val rfl (run_move (v := .tuple _) rfl) ?_
    refine lw_val rfl (run_extract (v := .slice _ _ _) rfl rfl) ?_
    refine lw_val rfl (run_extract (v := .bool _) rfl rfl) ?_
    refine lw_val rfl (run_assign (v := .slice _ _ _) rfl) ?_
    refine lw_val rfl (run_assign (v := .bool _) rfl) ?_
    refine lw_nil ?_
    refine cw_seq ?_
    refine cw_region ?_
    refine lw_val rfl (run_move (v := .slice _ _ _) rfl) ?_
    refine lw_call rfl en94 (clone_sl hs (l := b) hr (hsm.1 n b (aget_mem ho))) ?_
    clear hs
    rintro _ w ⟨a18, c18, rfl, hs⟩
    refine lw_val rfl (run_move (v := .bool _) rfl) ?_
    refine lw_val rfl (run_assign (v := .slice _ _ _) rfl) ?_
    refine lw_val rfl (run_assign (v := .bool _) rfl) ?_
    refine lw_nil ?_
    refine cw_ret ?_
    refine res2 (v := .slice _ _ _) (v2 := .bool _) rfl rfl rfl ?_
    rw [bytesL_len] at hs
    exact ⟨_, rfl, a18, c18, by rw [bytesL_len]; rfl, hs.closeS1⟩

theorem script_sl (hs : Mem g w (StoreC p st :: L)) {a : Option Addr} {m c : Nat} {outs : List Int} (ho : Rd g L (.slice a m c) (intsL outs)) (hlen : st.script.length + outs.length ≤ 1000000) : Calls Tryz.prog 20 #[.pointer (some ⟨p, 0, none⟩), .slice a m c] w
    (Ret fun v w' => v = .tuple #[] ∧ Mem g w' (StoreC p { st with script := st.script ++ outs } :: L)) := by
  obtain ⟨mo, mu, sa, sn, sc, es, us, hn, hs⟩ := hs.openS
  simp only [storeParts, List.cons_append, List.nil_append] at hs
  have hsrc := fun w (hs : Mem g w L) => src_of_seq (P := Tryz.prog) Tryz.underlying22 (ho.seq hs) (intsL_one outs)
  refine calls_cw Tryz.func20 rfl rfl ?_
  skip
  refine cw_region ?_
  refine lw_val rfl (run_move (v := .pointer (some _)) rfl) ?_
  refine lw_val rfl (run_move (v := .pointer (some _)) rfl) ?_
  refine lw_val rfl (run_nilCheckP rfl) ?_
  refine lw_val rfl (run_fieldAddr (o' := 3) Tryz.underlying135 rfl sz22 rfl rfl rfl) ?_
  refine lw_val rfl (run_load Tryz.underlying22 rfl rfl (hs.cellAt 0 rfl rfl)) ?_
  refine lw_val rfl (run_move (v := .slice _ _ _) rfl) ?_
  refine lw_append hs rfl 5 rfl Tryz.underlying22 in3 rfl rfl rfl (hsrc _ (hs.suffix 6 rfl)) (by simp [intsL]; omega) (by simp [intsL]; omega) ?_
  clear hs
  intro a10 c10 w hs
  simp only [List.set_cons_succ, List.set_cons_zero] at hs
  refine lw_val rfl (run_nilCheckP rfl) ?_
  refine lw_val rfl (run_fieldAddr (o' := 3) Tryz.underlying135 rfl sz22 rfl rfl rfl) ?_
  refine lw_store (v := .slice _ _ _) hs 0 rfl sz22 rfl rfl rfl rfl ?_
  clear hs
  intro w hs
  try simp only [List.set_cons_succ, List.set_cons_zero] at hs
  refine lw_nil ?_
  refine res0  rfl ?_
  rw [show intsL st.script ++ intsL outs = intsL (st.script ++ outs) by simp [intsL]] at hs
  exact ⟨_, rfl, rfl, Mem.closeS (st := { st with script := st.script ++ outs }) (sv := .slice a10 ((intsL st.script).length + (intsL outs).length) c10) hs⟩

/-! ### Delete -/
def St.del1 (n : ByteArray) (st : St) : Nat × St := if (aget st.objs n).isSome then (0, { st with objs := adel st.objs n }) else (107, st)
theorem delC_sl (hE : ErrG ad g) {nb sb : Nat} {n : ByteArray} (hs : Mem g w (StoreC p st :: cells nb [.string n] 9 :: cells sb [.pointer (some ⟨p, 0, none⟩)] 26 :: M)) :
    Calls Tryz.prog 159 #[.pointer (some ⟨sb, 0, none⟩), .pointer (some ⟨nb, 0, none⟩)] w (Ret fun v w' => v = errV ad (st.del1 n).1 ∧ Mem g w' (StoreC p (st.del1 n).2 :: cells nb [.string n] 9 :: cells sb [.pointer (some ⟨p, 0, none⟩)] 26 :: M)) := by
  obtain ⟨mo, mu, sa, sn, sc, es, us, hn, hs⟩ := hs.openS
  simp only [storeParts, List.cons_append, List.nil_append] at hs
  cases ho : aget st.objs n with
  | none =>
    have he := hs.bytesNone 2 rfl ho
    have hp : st.del1 n = (107, st) := by simp [St.del1, ho]
    rw [hp]
    refine calls_cw Tryz.func159 rfl rfl ?_
    skip
    refine cw_seq ?_
    refine cw_region ?_
    refine lw_val rfl (run_assign (v := .nilIface) rfl) ?_
    refine lw_nil ?_
    refine cw_seq ?_
    refine cw_seq ?_
    refine cw_drawS mixes hs ?_
    intro w tr hK
    replace hs := tr _ hs
    clear tr
    refine aw_take 0 rfl (by kernel_rfl) (by kernel_rfl) (by kernel_rfl) rfl (fun w hs => run_load Tryz.underlying26 rfl rfl (hs.cellAt 7 rfl rfl)) hK ?_
    refine aw_take 1 rfl (by kernel_rfl) (by kernel_rfl) (by kernel_rfl) rfl (fun w hs => run_nilCheckP rfl) hK ?_
    refine aw_take 2 rfl (by kernel_rfl) (by kernel_rfl) (by kernel_rfl) rfl (fun w hs => run_fieldAddr (o' := 0) Tryz.underlying135 rfl sz132 rfl rfl rfl) hK ?_
    refine aw_take 3 rfl (by kernel_rfl) (by kernel_rfl) (by kernel_rfl) rfl (fun w hs => run_load Tryz.underlying132 rfl rfl (hs.cellAt 0 rfl rfl)) hK ?_
    refine aw_take 4 rfl (by kernel_rfl) (by kernel_rfl) (by kernel_rfl) rfl (fun w hs => run_load Tryz.underlying9 rfl rfl (hs.cellAt 6 rfl rfl)) hK ?_
    refine aw_take 5 rfl (by kernel_rfl) (by kernel_rfl) (by kernel_rfl) rfl (fun w hs => run_lookupOk (hs.mapAt 1 rfl) strKind Tryz.underlying132 Tryz.underlying9 ze64 rfl rfl he) hK ?_
    refine aw_take 6 rfl (by kernel_rfl) (by kernel_rfl) (by kernel_rfl) rfl (fun w hs => run_move (v := .tuple _) rfl) hK ?_
    refine aw_take 7 rfl (by kernel_rfl) (by kernel_rfl) (by kernel_rfl) rfl (fun w hs => run_extract (v := .slice _ _ _) rfl rfl) hK ?_
    refine aw_take 8 rfl (by kernel_rfl) (by kernel_rfl) (by kernel_rfl) rfl (fun w hs => run_extract (v := .bool _) rfl rfl) hK ?_
    refine aw_take 9 rfl (by kernel_rfl) (by kernel_rfl) (by kernel_rfl) rfl (fun w hs => run_assign (v := .slice _ _ _) rfl) hK ?_
    refine aw_take 10 rfl (by kernel_rfl) (by kernel_rfl) (by kernel_rfl) rfl (fun w hs => run_assign (v := .bool _) rfl) hK ?_
    refine aw_done (by kernel_rfl) ?_
    clear hK
    refine cw_seq ?_
    refine cw_region ?_
    refine lw_val rfl (run_move (v := .bool _) rfl) ?_
    refine lw_val rfl (run_not rfl) ?_
    refine lw_nil ?_
    refine cw_ift rfl (not_t (rfl)) ?_
    refine cw_seq ?_
    refine cw_region ?_
    refine lw_val rfl (run_load Tryz.underlying30 rfl rfl (hE.cellW hs 107 (by decide) rfl)) ?_
    refine lw_val rfl (run_assign (v := errV ad _) rfl) ?_
    refine lw_nil ?_
    refine cw_ret ?_
    refine res1 (v := errV ad _) rfl rfl ?_
    exact ⟨_, rfl, rfl, hs.closeS⟩
  | some b =>
    obtain ⟨a, c, he, hr⟩ := hs.bytesAt 2 rfl ho
    have hp : st.del1 n = (0, { st with objs := adel st.objs n }) := by simp [St.del1, ho]
    have hnd := (hs.mapAt 1 rfl).nodup
    rw [hp]
    refine calls_cw Tryz.func159 rfl rfl ?_
    skip
    refine cw_seq ?_
    refine cw_region ?_
    refine lw_val rfl (run_assign (v := .nilIface) rfl) ?_
    refine lw_nil ?_
    refine cw_seq ?_
    refine cw_seq ?_
    refine cw_drawS mixes hs ?_
    intro w tr hK
    replace hs := tr _ hs
    clear tr
    refine aw_take 0 rfl (by kernel_rfl) (by kernel_rfl) (by kernel_rfl) rfl (fun w hs => run_load Tryz.underlying26 rfl rfl (hs.cellAt 7 rfl rfl)) hK ?_
    refine aw_take 1 rfl (by kernel_rfl) (by kernel_rfl) (by kernel_rfl) rfl (fun w hs => run_nilCheckP rfl) hK ?_
    refine aw_take 2 rfl (by kernel_rfl) (by kernel_rfl) (by kernel_rfl) rfl (fun w hs => run_fieldAddr (o' := 0) Tryz.underlying135 rfl sz132 rfl rfl rfl) hK ?_
    refine aw_take 3 rfl (by kernel_rfl) (by kernel_rfl) (by kernel_rfl) rfl (fun w hs => run_load Tryz.underlying132 rfl rfl (hs.cellAt 0 rfl rfl)) hK ?_
    refine aw_take 4 rfl (by kernel_rfl) (by kernel_rfl) (by kernel_rfl) rfl (fun w hs => run_load Tryz.underlying9 rfl rfl (hs.cellAt 6 rfl rfl)) hK ?_
    refine aw_take 5 rfl (by kernel_rfl) (by kernel_rfl) (by kernel_rfl) rfl (fun w hs => run_lookupOk (hs.mapAt 1 rfl) strKind Tryz.underlying132 Tryz.underlying9 ze64 rfl rfl he) hK ?_
    refine aw_take 6 rfl (by kernel_rfl) (by kernel_rfl) (by kernel_rfl) rfl (fun w hs => run_move (v := .tuple _) rfl) hK ?_
    refine aw_take 7 rfl (by kernel_rfl) (by kernel_rfl) (by kernel_rfl) rfl (fun w hs => run_extract (v := .slice _ _ _) rfl rfl) hK ?_
    refine aw_take 8 rfl (by kernel_rfl) (by kernel_rfl) (by kernel_rfl) rfl (fun w hs => run_extract (v := .bool _) rfl rfl) hK ?_
    refine aw_take 9 rfl (by kernel_rfl) (by kernel_rfl) (by kernel_rfl) rfl (fun w hs => run_assign (v := .slice _ _ _) rfl) hK ?_
    refine aw_take 10 rfl (by kernel_rfl) (by kernel_rfl) (by kernel_rfl) rfl (fun w hs => run_assign (v := .bool _) rfl) hK ?_
    refine aw_done (by kernel_rfl) ?_
    clear hK
    refine cw_seq ?_
    refine cw_region ?_
    refine lw_val rfl (run_move (v := .bool _) rfl) ?_
    refine lw_val rfl (run_not rfl) ?_
    refine lw_nil ?_
    refine cw_iff rfl (not_f (rfl)) ?_
    refine cw_skip ?_
    refine cw_seq ?_
    refine cw_drawS mixes (hs.drop 1) ?_
    intro w tr hK
    replace hs := tr _ hs
    clear tr
    refine aw_take 0 rfl (by kernel_rfl) (by kernel_rfl) (by kernel_rfl) rfl (fun w hs => run_load Tryz.underlying26 rfl rfl (hs.cellAt 6 rfl rfl)) hK ?_
    refine aw_take 1 rfl (by kernel_rfl) (by kernel_rfl) (by kernel_rfl) rfl (fun w hs => run_nilCheckP rfl) hK ?_
    refine aw_take 2 rfl (by kernel_rfl) (by kernel_rfl) (by kernel_rfl) rfl (fun w hs => run_fieldAddr (o' := 0) Tryz.underlying135 rfl sz132 rfl rfl rfl) hK ?_
    refine aw_take 3 rfl (by kernel_rfl) (by kernel_rfl) (by kernel_rfl) rfl (fun w hs => run_load Tryz.underlying132 rfl rfl (hs.cellAt 0 rfl rfl)) hK ?_
    refine aw_take 4 rfl (by kernel_rfl) (by kernel_rfl) (by kernel_rfl) rfl (fun w hs => run_load Tryz.underlying9 rfl rfl (hs.cellAt 5 rfl rfl)) hK ?_
    refine aw_ready [5] (by kernel_rfl) (by simp) ?_
    refine ⟨⟨_, rfl, ?_⟩, trivial⟩
    refine lw_delete hs rfl 1 rfl strKind Tryz.underlying132 Tryz.underlying9 rfl rfl ?_
    clear hs
    intro w hs
    try simp only [List.set_cons_succ, List.set_cons_zero] at hs
    clear hK
    have hK := hs.drop 1
    refine lw_nil ⟨hK, ?_⟩
    refine aw_done (by kernel_rfl) ?_
    clear hK
    refine cw_seq ?_
    refine cw_region ?_
    refine lw_val rfl (run_assign (v := .nilIface) rfl) ?_
    refine lw_nil ?_
    refine cw_ret ?_
    refine res1 (v := .nilIface) rfl rfl ?_
    replace hs := Mem.famDel (R := rdB) (k := n) hs 2 rfl hnd (fun _ h => False.elim h)
    exact ⟨_, rfl, (errV_zero ad).symm, hs.closeS⟩
theorem del_sl (hE : ErrG ad g) (hs : Mem g w (StoreC p st :: M)) (hcl : st.calls < 4611686018427387904) (hfl : st.failed < 4611686018427387904) (n : ByteArray) {k : Nat} {st2 : St} (hk : st.run (St.del1 n) = (k, st2)) :
    Calls Tryz.prog 51 #[.pointer (some ⟨p, 0, none⟩), .string n] w (Ret fun v w' => v = errV ad k ∧ Mem g w' (StoreC p st2 :: M)) := by
  have k1 : (st.run (St.del1 n)).1 = k := by rw [hk]
  have k2 : (st.run (St.del1 n)).2 = st2 := by rw [hk]
  subst k1 k2
  refine calls_cw Tryz.func51 rfl rfl ?_
  skip
  refine cw_seq ?_
  refine cw_region ?_
  refine lw_box (v := .pointer (some _)) hs rfl rfl ?_
  clear hs
  intro b2 w hs
  try simp only [List.set_cons_succ, List.set_cons_zero] at hs
  refine lw_box (v := .string _) hs rfl rfl ?_
  clear hs
  intro b3 w hs
  try simp only [List.set_cons_succ, List.set_cons_zero] at hs
  refine lw_val rfl (run_assign (v := .nilIface) rfl) ?_
  refine lw_nil ?_
  refine cw_seq ?_
  replace hs := hs.pick 2 rfl
  simp only [List.eraseIdx_cons_succ, List.eraseIdx_cons_zero] at hs
  refine cw_region ?_
  refine lw_val rfl (run_load Tryz.underlying26 rfl rfl (hs.cellAt 2 rfl rfl)) ?_
  refine lw_val rfl (run_makeFunc) ?_
  refine lw_call rfl en91 (call_err (cap := #[.pointer (some ⟨b2, 0, none⟩), .pointer (some ⟨b3, 0, none⟩)]) hE hs hcl hfl (St.del1 n) en159 (fun w1 h1 => delC_sl hE h1)) ?_
  clear hs
  rintro _ w ⟨rfl, hs⟩
  refine lw_val rfl (run_assign (v := errV ad _) rfl) ?_
  refine lw_nil ?_
  refine cw_ret ?_
  refine res1 (v := errV ad _) rfl rfl ?_
  exact ⟨_, rfl, rfl, (hs.drop 1).drop 1⟩

/-! ### Head -/
def St.head1 (n : ByteArray) (st : St) : Nat × Int × Int := match aget st.objs n with
  | some b => (0, b.length, ((crcMore 0 b : Nat) : Int))
  | none => (107, 0, 0)
theorem headC_sl (hE : ErrG ad g) (hsm : st.small) {nb sb lb ub : Nat} {n : ByteArray} (hs : Mem g w (StoreC p st :: cells ub [.int .u32 0] 39 :: cells lb [.int .i64 0] 3 :: cells nb [.string n] 9 :: cells sb [.pointer (some ⟨p, 0, none⟩)] 26 :: M)) :
    Calls Tryz.prog 153 #[.pointer (some ⟨sb, 0, none⟩), .pointer (some ⟨nb, 0, none⟩), .pointer (some ⟨lb, 0, none⟩), .pointer (some ⟨ub, 0, none⟩)] w
      (Ret fun v w' => v = errV ad (st.head1 n).1 ∧ Mem g w' (StoreC p st :: cells ub [.int .u32 (st.head1 n).2.2] 39 :: cells lb [.int .i64 (st.head1 n).2.1] 3 :: cells nb [.string n] 9 :: cells sb [.pointer (some ⟨p, 0, none⟩)] 26 :: M)) := by
  obtain ⟨mo, mu, sa, sn, sc, es, us, hn, hs⟩ := hs.openS
  simp only [storeParts, List.cons_append, List.nil_append] at hs
  cases ho : aget st.objs n with
  | none =>
    have he := hs.bytesNone 2 rfl ho
    have hp : st.head1 n = (107, 0, 0) := by simp [St.head1, ho]
    rw [hp]
    refine calls_cw Tryz.func153 rfl rfl ?_
    skip
    refine cw_seq ?_
    refine cw_region ?_
    refine lw_val rfl (run_assign (v := .nilIface) rfl) ?_
    refine lw_nil ?_
    refine cw_seq ?_
    refine cw_drawS mixes hs ?_
    intro w tr hK
    replace hs := tr _ hs
    clear tr
    refine aw_take 0 rfl (by kernel_rfl) (by kernel_rfl) (by kernel_rfl) rfl (fun w hs => run_load Tryz.underlying26 rfl rfl (hs.cellAt 9 rfl rfl)) hK ?_
    refine aw_take 1 rfl (by kernel_rfl) (by kernel_rfl) (by kernel_rfl) rfl (fun w hs => run_nilCheckP rfl) hK ?_
    refine aw_take 2 rfl (by kernel_rfl) (by kernel_rfl) (by kernel_rfl) rfl (fun w hs => run_fieldAddr (o' := 0) Tryz.underlying135 rfl sz132 rfl rfl rfl) hK ?_
    refine aw_take 3 rfl (by kernel_rfl) (by kernel_rfl) (by kernel_rfl) rfl (fun w hs => run_load Tryz.underlying132 rfl rfl (hs.cellAt 0 rfl rfl)) hK ?_
    refine aw_take 4 rfl (by kernel_rfl) (by kernel_rfl) (by kernel_rfl) rfl (fun w hs => run_load Tryz.underlying9 rfl rfl (hs.cellAt 8 rfl rfl)) hK ?_
    refine aw_take 5 rfl (by kernel_rfl) (by kernel_rfl) (by kernel_rfl) rfl (fun w hs => run_lookupOk (hs.mapAt 1 rfl) strKind Tryz.underlying132 Tryz.underlying9 ze64 rfl rfl he) hK ?_
    refine aw_take 6 rfl (by kernel_rfl) (by kernel_rfl) (by kernel_rfl) rfl (fun w hs => run_move (v := .tuple _) rfl) hK ?_
    refine aw_take 7 rfl (by kernel_rfl) (by kernel_rfl) (by kernel_rfl) rfl (fun w hs => run_extract (v := .slice _ _ _) rfl rfl) hK ?_
    refine aw_take 8 rfl (by kernel_rfl) (by kernel_rfl) (by kernel_rfl) rfl (fun w hs => run_extract (v := .bool _) rfl rfl) hK ?_
    refine aw_take 9 rfl (by kernel_rfl) (by kernel_rfl) (by kernel_rfl) rfl (fun w hs => run_assign (v := .slice _ _ _) rfl) hK ?_
    refine aw_take 10 rfl (by kernel_rfl) (by kernel_rfl) (by kernel_rfl) rfl (fun w hs => run_assign (v := .bool _) rfl) hK ?_
    refine aw_done (by kernel_rfl) ?_
    clear hK
    refine cw_seq ?_
    refine cw_seq ?_
    refine cw_region ?_
    refine lw_val rfl (run_move (v := .bool _) rfl) ?_
    refine lw_val rfl (run_not rfl) ?_
    refine lw_nil ?_
    refine cw_ift rfl (not_t (rfl)) ?_
    refine cw_seq ?_
    refine cw_region ?_
    refine lw_val rfl (run_load Tryz.underlying30 rfl rfl (hE.cellW hs 107 (by decide) rfl)) ?_
    refine lw_val rfl (run_assign (v := errV ad _) rfl) ?_
    refine lw_nil ?_
    refine cw_ret ?_
    refine res1 (v := errV ad _) rfl rfl ?_
    exact ⟨_, rfl, rfl, hs.closeS⟩
  | some b =>
    obtain ⟨a, c, he, hr⟩ := hs.bytesAt 2 rfl ho
    have hp : st.head1 n = (0, (b.length : Int), ((crcMore 0 b : Nat) : Int)) := by simp [St.head1, ho]
    have hl := hsm.1 n b (aget_mem ho)
    rw [hp]
    refine calls_cw Tryz.func153 rfl rfl ?_
    skip
    refine cw_seq ?_
    refine cw_region ?_
    refine lw_val rfl (run_assign (v := .nilIface) rfl) ?_
    refine lw_nil ?_
    refine cw_seq ?_
    refine cw_drawS mixes hs ?_
    intro w tr hK
    replace hs := tr _ hs
    clear tr
    refine aw_take 0 rfl (by kernel_rfl) (by kernel_rfl) (by kernel_rfl) rfl (fun w hs => run_load Tryz.underlying26 rfl rfl (hs.cellAt 9 rfl rfl)) hK ?_
    refine aw_take 1 rfl (by kernel_rfl) (by kernel_rfl) (by kernel_rfl) rfl (fun w hs => run_nilCheckP rfl) hK ?_
    refine aw_take 2 rfl (by kernel_rfl) (by kernel_rfl) (by kernel_rfl) rfl (fun w hs => run_fieldAddr (o' := 0) Tryz.underlying135 rfl sz132 rfl rfl rfl) hK ?_
    refine aw_take 3 rfl (by kernel_rfl) (by kernel_rfl) (by kernel_rfl) rfl (fun w hs => run_load Tryz.underlying132 rfl rfl (hs.cellAt 0 rfl rfl)) hK ?_
    refine aw_take 4 rfl (by kernel_rfl) (by kernel_rfl) (by kernel_rfl) rfl (fun w hs => run_load Tryz.underlying9 rfl rfl (hs.cellAt 8 rfl rfl)) hK ?_
    refine aw_take 5 rfl (by kernel_rfl) (by kernel_rfl) (by kernel_rfl) rfl (fun w hs => run_lookupOk (hs.mapAt 1 rfl) strKind Tryz.underlying132 Tryz.underlying9 ze64 rfl rfl he) hK ?_
    refine aw_take 6 rfl (by kernel_rfl) (by kernel_rfl) (by kernel_rfl) rfl (fun w hs => run_move (v := .tuple _) rfl) hK ?_
    refine aw_take 7 rfl (by kernel_rfl) (by kernel_rfl) (by kernel_rfl) rfl (fun w hs => run_extract (v := .slice _ _ _) rfl rfl) hK ?_
    refine aw_take 8 rfl (by kernel_rfl) (by kernel_rfl) (by kernel_rfl) rfl (fun w hs => run_extract (v := .bool _) rfl rfl) hK ?_
    refine aw_take 9 rfl (by kernel_rfl) (by kernel_rfl) (by kernel_rfl) rfl (fun w hs => run_assign (v := .slice _ _ _) rfl) hK ?_
    refine aw_take 10 rfl (by kernel_rfl) (by kernel_rfl) (by kernel_rfl) rfl (fun w hs => run_assign (v := .bool _) rfl) hK ?_
    refine aw_done (by kernel_rfl) ?_
    clear hK
    refine cw_seq ?_
    refine cw_seq ?_
    refine cw_region ?_
    refine lw_val rfl (run_move (v := .bool _) rfl) ?_
    refine lw_val rfl (run_not rfl) ?_
    refine lw_nil ?_
    refine cw_iff rfl (not_f (rfl)) ?_
    refine cw_skip ?_
    refine cw_seq ?_
    refine cw_region ?_
    refine lw_val rfl (run_move (v := .slice _ _ _) rfl) ?_
    refine lw_val rfl (run_lenS Tryz.underlying64 rfl) ?_
    refine lw_val rfl (run_move (v := .slice _ _ _) rfl) ?_
    refine lw_buildSlice hs rfl ([.slice a b.length c]) Tryz.underlying179 zs64 rfl (by simp [Value.cells]) rfl rfl rfl ?_
    clear hs
    intro b22 w hs
    try simp only [List.set_cons_succ, List.set_cons_zero] at hs
    refine lw_call rfl en154 (of_sl hs (Rd.cells 0 rfl rfl) hr.cons hl) ?_
    clear hs
    rintro _ w ⟨rfl, hs⟩
    refine lw_store (v := .int .i64 _) hs 8 rfl sz3 rfl rfl rfl rfl ?_
    clear hs
    intro w hs
    try simp only [List.set_cons_succ, List.set_cons_zero] at hs
    refine lw_store (v := .int .u32 _) hs 7 rfl sz39 rfl rfl rfl rfl ?_
    clear hs
    intro w hs
    try simp only [List.set_cons_succ, List.set_cons_zero] at hs
    refine lw_nil ?_
    refine cw_seq ?_
    refine cw_region ?_
    refine lw_val rfl (run_assign (v := .nilIface) rfl) ?_
    refine lw_nil ?_
    refine cw_ret ?_
    refine res1 (v := .nilIface) rfl rfl ?_
    exact ⟨_, rfl, (errV_zero ad).symm, hs.tail.closeS⟩
/-- What Head tells: length, sum, code; the store behind it. -/
def St.headR (n : ByteArray) (st : St) : Int × Int × Nat × St :=
  if st.next = 1 ∨ st.next = 2 then (0, 0, 111, st.begin) else if (st.begin.head1 n).1 = 0 then ((st.begin.head1 n).2.1, (st.begin.head1 n).2.2, (st.begin.head1 n).1, st.begin) else (0, 0, (st.begin.head1 n).1, st.begin)
theorem head_sl (hE : ErrG ad g) (hsm : st.small) (hs : Mem g w (StoreC p st :: M)) (hcl : st.calls < 4611686018427387904) (hfl : st.failed < 4611686018427387904) (n : ByteArray) {x y : Int} {k : Nat} {st2 : St} (hk : st.headR n = (x, y, k, st2)) :
    Calls Tryz.prog 47 #[.pointer (some ⟨p, 0, none⟩), .string n] w
      (Ret fun v w' => v = .tuple #[.int .i64 x, .int .u32 y, errV ad k] ∧ Mem g w' (StoreC p st2 :: M)) := by
  have hbs : st.begin.small := hsm
  have k1 : (st.headR n).1 = x := by rw [hk]
  have k2 : (st.headR n).2.1 = y := by rw [hk]
  have k3 : (st.headR n).2.2.1 = k := by rw [hk]
  have k4 : (st.headR n).2.2.2 = st2 := by rw [hk]
  subst k1 k2 k3 k4
  refine calls_cw Tryz.func47 rfl rfl ?_
  skip
  refine cw_seq ?_
  refine cw_region ?_
  refine lw_box (v := .pointer (some _)) hs rfl rfl ?_
  clear hs
  intro b2 w hs
  try simp only [List.set_cons_succ, List.set_cons_zero] at hs
  refine lw_box (v := .string _) hs rfl rfl ?_
  clear hs
  intro b3 w hs
  try simp only [List.set_cons_succ, List.set_cons_zero] at hs
  refine lw_val rfl (run_assign (v := .int .i64 _) rfl) ?_
  refine lw_val rfl (run_assign (v := .int .u32 _) rfl) ?_
  refine lw_val rfl (run_assign (v := .nilIface) rfl) ?_
  refine lw_nil ?_
  refine cw_seq ?_
  refine cw_region ?_
  refine lw_alloc hs rfl ze3 ?_
  clear hs
  intro b7 w hs
  try simp only [List.set_cons_succ, List.set_cons_zero] at hs
  refine lw_alloc hs rfl ze39 ?_
  clear hs
  intro b8 w hs
  try simp only [List.set_cons_succ, List.set_cons_zero] at hs
  refine lw_store (v := .int .i64 _) hs 1 rfl sz3 rfl rfl rfl rfl ?_
  clear hs
  intro w hs
  try simp only [List.set_cons_succ, List.set_cons_zero] at hs
  refine lw_store (v := .int .u32 _) hs 0 rfl sz39 rfl rfl rfl rfl ?_
  clear hs
  intro w hs
  try simp only [List.set_cons_succ, List.set_cons_zero] at hs
  refine lw_nil ?_
  refine cw_seq ?_
  replace hs := hs.pick 4 rfl
  simp only [List.eraseIdx_cons_succ, List.eraseIdx_cons_zero] at hs
  refine cw_region ?_
  refine lw_val rfl (run_load Tryz.underlying26 rfl rfl (hs.cellAt 4 rfl rfl)) ?_
  refine lw_val rfl (run_makeFunc) ?_
  refine lw_call rfl en91 (call_sl (R := fun c w' => ∃ l u, (if c = 0 then (l, u, c, st.begin) else (0, 0, c, st.begin)) = st.headR n ∧ Mem g w' (StoreC p st.begin :: cells b8 [.int .u32 u] 39 :: cells b7 [.int .i64 l] 3 :: M)) (cap := #[.pointer (some ⟨b2, 0, none⟩), .pointer (some ⟨b3, 0, none⟩), .pointer (some ⟨b7, 0, none⟩), .pointer (some ⟨b8, 0, none⟩)]) hE hs hcl hfl en153 (fun h1 w1 hs => ⟨0, 0, by simp [St.headR, h1], (hs.drop 4).drop 3⟩) (fun h1 w1 hs => (headC_sl hE hbs hs).mono (by rintro e w2 ⟨v, rfl, rfl, hs⟩; refine ⟨_, rfl, _, rfl, hs.nil, _, _, ?_, (hs.drop 4).drop 3⟩; by_cases h2 : st.next = 2 <;> simp [St.headR, h1, h2]))) ?_
  clear hs
  rintro _ w ⟨c12, rfl, l12, u12, hh, hs⟩
  refine lw_val rfl (run_assign (v := errV ad _) rfl) ?_
  refine lw_nil ?_
  refine cw_seq ?_
  refine cw_seq ?_
  refine cw_region ?_
  refine lw_val rfl (run_move (v := errV ad _) rfl) ?_
  refine lw_val rfl (run_neerrn (ad := ad) rfl) ?_
  refine lw_nil ?_
  refine cw_if rfl ?_ ?_
  · intro h14
    have g14 := ne_t h14
    refine cw_seq ?_
    refine cw_region ?_
    refine lw_val rfl (run_move (v := errV ad _) rfl) ?_
    refine lw_val rfl (run_assign (v := .int .i64 _) rfl) ?_
    refine lw_val rfl (run_assign (v := .int .u32 _) rfl) ?_
    refine lw_val rfl (run_assign (v := errV ad _) rfl) ?_
    refine lw_nil ?_
    refine cw_ret ?_
    refine res3 (v := .int .i64 _) (v2 := .int .u32 _) (v3 := errV ad _) rfl rfl rfl rfl ?_
    rw [if_neg g14] at hh
    rw [← hh]
    exact ⟨_, rfl, rfl, (hs.drop 1).drop 1⟩
  · intro h14
    have g14 := ne_f h14
    refine cw_skip ?_
    refine cw_seq ?_
    refine cw_drawS mixes hs ?_
    intro w tr hK
    replace hs := tr _ hs
    clear tr
    refine aw_take 0 rfl (by kernel_rfl) (by kernel_rfl) (by kernel_rfl) rfl (fun w hs => run_load Tryz.underlying3 rfl rfl (hs.cellAt 2 rfl rfl)) hK ?_
    refine aw_take 1 rfl (by kernel_rfl) (by kernel_rfl) (by kernel_rfl) rfl (fun w hs => run_load Tryz.underlying39 rfl rfl (hs.cellAt 1 rfl rfl)) hK ?_
    refine aw_take 2 rfl (by kernel_rfl) (by kernel_rfl) (by kernel_rfl) rfl (fun w hs => run_assign (v := .int .i64 _) rfl) hK ?_
    refine aw_take 3 rfl (by kernel_rfl) (by kernel_rfl) (by kernel_rfl) rfl (fun w hs => run_assign (v := .int .u32 _) rfl) hK ?_
    refine aw_take 4 rfl (by kernel_rfl) (by kernel_rfl) (by kernel_rfl) rfl (fun w hs => run_assign (v := .nilIface) rfl) hK ?_
    refine aw_done (by kernel_rfl) ?_
    clear hK
    refine cw_ret ?_
    refine res3 (v := .int .i64 _) (v2 := .int .u32 _) (v3 := .nilIface) rfl rfl rfl rfl ?_
    rw [if_pos g14] at hh
    rw [← hh]
    exact ⟨_, rfl, by show _ = Value.tuple #[.int .i64 l12, .int .u32 u12, errV ad c12]; rw [g14, errV_zero], (hs.drop 1).drop 1⟩

/-! ### Get -/
def St.get1 (n : ByteArray) (off m : Int) (st : St) : Nat × List UInt8 := match aget st.objs n with
  | some b => if off < 0 ∨ m < 0 ∨ (b.length : Int) < off ∨ (b.length : Int) - off < m then (105, []) else (0, (b.take (off.toNat + m.toNat)).drop off.toNat)
  | none => (107, [])
theorem getC_sl (hE : ErrG ad g) (hsm : st.small) {nb sb ob fb mb : Nat} {n : ByteArray} {off m : Int} (hoff : InI64 off) (hm : InI64 m) (hs : Mem g w (StoreC p st :: cells ob [.slice none 0 0] 64 :: cells mb [.int .i64 m] 3 :: cells fb [.int .i64 off] 3 :: cells nb [.string n] 9 :: cells sb [.pointer (some ⟨p, 0, none⟩)] 26 :: M)) :
    Calls Tryz.prog 151 #[.pointer (some ⟨sb, 0, none⟩), .pointer (some ⟨nb, 0, none⟩), .pointer (some ⟨fb, 0, none⟩), .pointer (some ⟨mb, 0, none⟩), .pointer (some ⟨ob, 0, none⟩)] w
      (Ret fun v w' => ∃ a c, v = errV ad (st.get1 n off m).1 ∧ Mem g w' (own (.slice a (st.get1 n off m).2.length c) (bytesL (st.get1 n off m).2) :: StoreC p st :: cells ob [.slice a (st.get1 n off m).2.length c] 64 :: cells mb [.int .i64 m] 3 :: cells fb [.int .i64 off] 3 :: cells nb [.string n] 9 :: cells sb [.pointer (some ⟨p, 0, none⟩)] 26 :: M)) := by
  obtain ⟨mo, mu, sa, sn, sc, es, us, hn, hs⟩ := hs.openS
  obtain ⟨ho1, ho2⟩ := hoff
  obtain ⟨hm1, hm2⟩ := hm
  simp only [storeParts, List.cons_append, List.nil_append] at hs
  cases ho : aget st.objs n with
  | none =>
    have he := hs.bytesNone 2 rfl ho
    have hp : st.get1 n off m = (107, []) := by simp [St.get1, ho]
    rw [hp]
    refine calls_cw Tryz.func151 rfl rfl ?_
    skip
    refine cw_seq ?_
    refine cw_region ?_
    refine lw_val rfl (run_assign (v := .nilIface) rfl) ?_
    refine lw_nil ?_
    refine cw_seq ?_
    refine cw_drawS mixes hs ?_
    intro w tr hK
    replace hs := tr _ hs
    clear tr
    refine aw_take 0 rfl (by kernel_rfl) (by kernel_rfl) (by kernel_rfl) rfl (fun w hs => run_load Tryz.underlying26 rfl rfl (hs.cellAt 10 rfl rfl)) hK ?_
    refine aw_take 1 rfl (by kernel_rfl) (by kernel_rfl) (by kernel_rfl) rfl (fun w hs => run_nilCheckP rfl) hK ?_
    refine aw_take 2 rfl (by kernel_rfl) (by kernel_rfl) (by kernel_rfl) rfl (fun w hs => run_fieldAddr (o' := 0) Tryz.underlying135 rfl sz132 rfl rfl rfl) hK ?_
    refine aw_take 3 rfl (by kernel_rfl) (by kernel_rfl) (by kernel_rfl) rfl (fun w hs => run_load Tryz.underlying132 rfl rfl (hs.cellAt 0 rfl rfl)) hK ?_
    refine aw_take 4 rfl (by kernel_rfl) (by kernel_rfl) (by kernel_rfl) rfl (fun w hs => run_load Tryz.underlying9 rfl rfl (hs.cellAt 9 rfl rfl)) hK ?_
    refine aw_take 5 rfl (by kernel_rfl) (by kernel_rfl) (by kernel_rfl) rfl (fun w hs => run_lookupOk (hs.mapAt 1 rfl) strKind Tryz.underlying132 Tryz.underlying9 ze64 rfl rfl he) hK ?_
    refine aw_take 6 rfl (by kernel_rfl) (by kernel_rfl) (by kernel_rfl) rfl (fun w hs => run_move (v := .tuple _) rfl) hK ?_
    refine aw_take 7 rfl (by kernel_rfl) (by kernel_rfl) (by kernel_rfl) rfl (fun w hs => run_extract (v := .slice _ _ _) rfl rfl) hK ?_
    refine aw_take 8 rfl (by kernel_rfl) (by kernel_rfl) (by kernel_rfl) rfl (fun w hs => run_extract (v := .bool _) rfl rfl) hK ?_
    refine aw_take 9 rfl (by kernel_rfl) (by kernel_rfl) (by kernel_rfl) rfl (fun w hs => run_assign (v := .slice _ _ _) rfl) hK ?_
    refine aw_take 10 rfl (by kernel_rfl) (by kernel_rfl) (by kernel_rfl) rfl (fun w hs => run_assign (v := .bool _) rfl) hK ?_
    refine aw_done (by kernel_rfl) ?_
    clear hK
    refine cw_seq ?_
    refine cw_block ?_
    refine cw_seq ?_
    refine cw_region ?_
    refine lw_val rfl (run_move (v := .bool _) rfl) ?_
    refine lw_val rfl (run_not rfl) ?_
    refine lw_val rfl (run_assign (v := .bool _) rfl) ?_
    refine lw_nil ?_
    refine cw_ift rfl (not_t (rfl)) ?_
    refine cw_seq ?_
    refine cw_region ?_
    refine lw_val rfl (run_load Tryz.underlying30 rfl rfl (hE.cellW hs 107 (by decide) rfl)) ?_
    refine lw_val rfl (run_assign (v := errV ad _) rfl) ?_
    refine lw_nil ?_
    refine cw_ret ?_
    refine res1 (v := errV ad _) rfl rfl ?_
    exact ⟨_, rfl, none, 0, rfl, hs.closeS.addE (own_nil _)⟩
  | some b =>
    obtain ⟨a, c, he, hr⟩ := hs.bytesAt 2 rfl ho
    have hl := hsm.1 n b (aget_mem ho)
    have hbad : (off < 0 ∨ m < 0 ∨ (b.length : Int) < off ∨ (b.length : Int) - off < m) → st.get1 n off m = (105, []) := fun h => by simp only [St.get1, ho]; rw [if_pos h]
    refine calls_cw Tryz.func151 rfl rfl ?_
    skip
    refine cw_seq ?_
    refine cw_region ?_
    refine lw_val rfl (run_assign (v := .nilIface) rfl) ?_
    refine lw_nil ?_
    refine cw_seq ?_
    refine cw_drawS mixes hs ?_
    intro w tr hK
    replace hs := tr _ hs
    clear tr
    refine aw_take 0 rfl (by kernel_rfl) (by kernel_rfl) (by kernel_rfl) rfl (fun w hs => run_load Tryz.underlying26 rfl rfl (hs.cellAt 10 rfl rfl)) hK ?_
    refine aw_take 1 rfl (by kernel_rfl) (by kernel_rfl) (by kernel_rfl) rfl (fun w hs => run_nilCheckP rfl) hK ?_
    refine aw_take 2 rfl (by kernel_rfl) (by kernel_rfl) (by kernel_rfl) rfl (fun w hs => run_fieldAddr (o' := 0) Tryz.underlying135 rfl sz132 rfl rfl rfl) hK ?_
    refine aw_take 3 rfl (by kernel_rfl) (by kernel_rfl) (by kernel_rfl) rfl (fun w hs => run_load Tryz.underlying132 rfl rfl (hs.cellAt 0 rfl rfl)) hK ?_
    refine aw_take 4 rfl (by kernel_rfl) (by kernel_rfl) (by kernel_rfl) rfl (fun w hs => run_load Tryz.underlying9 rfl rfl (hs.cellAt 9 rfl rfl)) hK ?_
    refine aw_take 5 rfl (by kernel_rfl) (by kernel_rfl) (by kernel_rfl) rfl (fun w hs => run_lookupOk (hs.mapAt 1 rfl) strKind Tryz.underlying132 Tryz.underlying9 ze64 rfl rfl he) hK ?_
    refine aw_take 6 rfl (by kernel_rfl) (by kernel_rfl) (by kernel_rfl) rfl (fun w hs => run_move (v := .tuple _) rfl) hK ?_
    refine aw_take 7 rfl (by kernel_rfl) (by kernel_rfl) (by kernel_rfl) rfl (fun w hs => run_extract (v := .slice _ _ _) rfl rfl) hK ?_
    refine aw_take 8 rfl (by kernel_rfl) (by kernel_rfl) (by kernel_rfl) rfl (fun w hs => run_extract (v := .bool _) rfl rfl) hK ?_
    refine aw_take 9 rfl (by kernel_rfl) (by kernel_rfl) (by kernel_rfl) rfl (fun w hs => run_assign (v := .slice _ _ _) rfl) hK ?_
    refine aw_take 10 rfl (by kernel_rfl) (by kernel_rfl) (by kernel_rfl) rfl (fun w hs => run_assign (v := .bool _) rfl) hK ?_
    refine aw_done (by kernel_rfl) ?_
    clear hK
    refine cw_seq ?_
    refine cw_block ?_
    refine cw_seq ?_
    refine cw_region ?_
    refine lw_val rfl (run_move (v := .bool _) rfl) ?_
    refine lw_val rfl (run_not rfl) ?_
    refine lw_val rfl (run_assign (v := .bool _) rfl) ?_
    refine lw_nil ?_
    refine cw_iff rfl (not_f (rfl)) ?_
    refine cw_seq ?_
    refine cw_region ?_
    refine lw_val rfl (run_load Tryz.underlying3 rfl rfl (hs.cellAt 8 rfl rfl)) ?_
    refine lw_val rfl (run_lss rfl rfl) ?_
    refine lw_val rfl (run_move (v := .bool _) rfl) ?_
    refine lw_split (t := _) (d := 24) rfl ?_ ?_
    · intro h23
      have g23 := of_decide_eq_true h23
      refine lw_off rfl rfl rfl h23 ?_
      refine lw_off rfl rfl rfl h23 ?_
      refine lw_val rfl (run_pickT (v := .bool _) rfl h23 rfl) ?_
      refine lw_val rfl (run_move (v := .bool _) rfl) ?_
      refine lw_off rfl rfl rfl rfl ?_
      refine lw_off rfl rfl rfl rfl ?_
      refine lw_off rfl rfl rfl rfl ?_
      refine lw_off rfl rfl rfl rfl ?_
      refine lw_val rfl (run_pickT (v := .bool _) rfl rfl rfl) ?_
      refine lw_val rfl (run_move (v := .bool _) rfl) ?_
      refine lw_off rfl rfl rfl rfl ?_
      refine lw_off rfl rfl rfl rfl ?_
      refine lw_off rfl rfl rfl rfl ?_
      refine lw_off rfl rfl rfl rfl ?_
      refine lw_off rfl rfl rfl rfl ?_
      refine lw_off rfl rfl rfl rfl ?_
      refine lw_val rfl (run_pickT (v := .bool _) rfl rfl rfl) ?_
      refine lw_val rfl (run_assign (v := .bool _) rfl) ?_
      refine lw_nil ?_
      skip
      refine cw_ift rfl rfl ?_
      refine cw_seq ?_
      refine cw_region ?_
      refine lw_val rfl (run_load Tryz.underlying30 rfl rfl (hE.cellW hs 105 (by decide) rfl)) ?_
      refine lw_val rfl (run_assign (v := errV ad _) rfl) ?_
      refine lw_nil ?_
      refine cw_ret ?_
      refine res1 (v := errV ad _) rfl rfl ?_
      rw [hbad (by omega)]
      exact ⟨_, rfl, none, 0, rfl, hs.closeS.addE (own_nil _)⟩
    · intro h23
      have g23 := of_decide_eq_false h23
      refine lw_on rfl rfl h23 ?_
      refine lw_val rfl (run_load Tryz.underlying3 rfl rfl (hs.cellAt 7 rfl rfl)) ?_
      refine lw_on rfl rfl h23 ?_
      refine lw_val rfl (run_lss rfl rfl) ?_
      refine lw_val rfl (run_pickF (v := .bool _) rfl h23 rfl) ?_
      refine lw_val rfl (run_move (v := .bool _) rfl) ?_
      refine lw_split (t := _) (d := 28) rfl ?_ ?_
      · intro h26
        have g26 := of_decide_eq_true h26
        refine lw_off rfl rfl rfl h26 ?_
        refine lw_off rfl rfl rfl h26 ?_
        refine lw_off rfl rfl rfl h26 ?_
        refine lw_off rfl rfl rfl h26 ?_
        refine lw_val rfl (run_pickT (v := .bool _) rfl h26 rfl) ?_
        refine lw_val rfl (run_move (v := .bool _) rfl) ?_
        refine lw_off rfl rfl rfl rfl ?_
        refine lw_off rfl rfl rfl rfl ?_
        refine lw_off rfl rfl rfl rfl ?_
        refine lw_off rfl rfl rfl rfl ?_
        refine lw_off rfl rfl rfl rfl ?_
        refine lw_off rfl rfl rfl rfl ?_
        refine lw_val rfl (run_pickT (v := .bool _) rfl rfl rfl) ?_
        refine lw_val rfl (run_assign (v := .bool _) rfl) ?_
        refine lw_nil ?_
        skip
        refine cw_ift rfl rfl ?_
        refine cw_seq ?_
        refine cw_region ?_
        refine lw_val rfl (run_load Tryz.underlying30 rfl rfl (hE.cellW hs 105 (by decide) rfl)) ?_
        refine lw_val rfl (run_assign (v := errV ad _) rfl) ?_
        refine lw_nil ?_
        refine cw_ret ?_
        refine res1 (v := errV ad _) rfl rfl ?_
        rw [hbad (by omega)]
        exact ⟨_, rfl, none, 0, rfl, hs.closeS.addE (own_nil _)⟩
      · intro h26
        have g26 := of_decide_eq_false h26
        refine lw_on rfl rfl h26 ?_
        refine lw_val rfl (run_load Tryz.underlying3 rfl rfl (hs.cellAt 8 rfl rfl)) ?_
        refine lw_on rfl rfl h26 ?_
        refine lw_val rfl (run_move (v := .slice _ _ _) rfl) ?_
        refine lw_on rfl rfl h26 ?_
        refine lw_val rfl (run_lenS Tryz.underlying64 rfl) ?_
        refine lw_on rfl rfl h26 ?_
        refine lw_val rfl (run_gtr rfl rfl) ?_
        refine lw_val rfl (run_pickF (v := .bool _) rfl h26 rfl) ?_
        refine lw_val rfl (run_move (v := .bool _) rfl) ?_
        refine lw_split (t := _) (d := 34) rfl ?_ ?_
        · intro h32
          have g32 := of_decide_eq_true h32
          refine lw_off rfl rfl rfl h32 ?_
          refine lw_off rfl rfl rfl h32 ?_
          refine lw_off rfl rfl rfl h32 ?_
          refine lw_off rfl rfl rfl h32 ?_
          refine lw_off rfl rfl rfl h32 ?_
          refine lw_off rfl rfl rfl h32 ?_
          refine lw_val rfl (run_pickT (v := .bool _) rfl h32 rfl) ?_
          refine lw_val rfl (run_assign (v := .bool _) rfl) ?_
          refine lw_nil ?_
          skip
          refine cw_ift rfl rfl ?_
          refine cw_seq ?_
          refine cw_region ?_
          refine lw_val rfl (run_load Tryz.underlying30 rfl rfl (hE.cellW hs 105 (by decide) rfl)) ?_
          refine lw_val rfl (run_assign (v := errV ad _) rfl) ?_
          refine lw_nil ?_
          refine cw_ret ?_
          refine res1 (v := errV ad _) rfl rfl ?_
          rw [hbad (by omega)]
          exact ⟨_, rfl, none, 0, rfl, hs.closeS.addE (own_nil _)⟩
        · intro h32
          have g32 := of_decide_eq_false h32
          refine lw_on rfl rfl h32 ?_
          refine lw_val rfl (run_load Tryz.underlying3 rfl rfl (hs.cellAt 7 rfl rfl)) ?_
          refine lw_on rfl rfl h32 ?_
          refine lw_val rfl (run_move (v := .slice _ _ _) rfl) ?_
          refine lw_on rfl rfl h32 ?_
          refine lw_val rfl (run_lenS Tryz.underlying64 rfl) ?_
          refine lw_on rfl rfl h32 ?_
          refine lw_val rfl (run_load Tryz.underlying3 rfl rfl (hs.cellAt 8 rfl rfl)) ?_
          refine lw_on rfl rfl h32 ?_
          refine lw_val rfl (run_sub64 rfl rfl rfl (inI (by omega) (by omega))) ?_
          refine lw_on rfl rfl h32 ?_
          refine lw_val rfl (run_gtr rfl rfl) ?_
          refine lw_val rfl (run_pickF (v := .bool _) rfl h32 rfl) ?_
          refine lw_val rfl (run_assign (v := .bool _) rfl) ?_
          refine lw_nil ?_
          skip
          refine cw_if rfl ?_ ?_
          · intro h40
            have g40 := of_decide_eq_true h40
            refine cw_seq ?_
            refine cw_region ?_
            refine lw_val rfl (run_load Tryz.underlying30 rfl rfl (hE.cellW hs 105 (by decide) rfl)) ?_
            refine lw_val rfl (run_assign (v := errV ad _) rfl) ?_
            refine lw_nil ?_
            refine cw_ret ?_
            refine res1 (v := errV ad _) rfl rfl ?_
            rw [hbad (by omega)]
            exact ⟨_, rfl, none, 0, rfl, hs.closeS.addE (own_nil _)⟩
          · intro h40
            have g40 := of_decide_eq_false h40
            obtain ⟨i, rfl⟩ : ∃ i : Nat, off = i := ⟨off.toNat, by omega⟩
            obtain ⟨j, rfl⟩ : ∃ j : Nat, m = j := ⟨m.toNat, by omega⟩
            refine cw_skip ?_
            refine cw_seq ?_
            refine cw_region ?_
            refine lw_val rfl (run_move (v := .slice _ _ _) rfl) ?_
            refine lw_val rfl (run_load Tryz.underlying3 rfl rfl (hs.cellAt 8 rfl rfl)) ?_
            refine lw_val rfl (run_load Tryz.underlying3 rfl rfl (hs.cellAt 8 rfl rfl)) ?_
            refine lw_val rfl (run_load Tryz.underlying3 rfl rfl (hs.cellAt 7 rfl rfl)) ?_
            refine lw_val rfl (run_add64 rfl rfl rfl (inI (by omega) (by omega))) ?_
            refine lw_val rfl (run_slice Tryz.underlying64 sz5 rfl rfl rfl (lo := i) (hi := i + j) rfl rfl (by omega) (by have := (hr.seq hs).open; omega)) ?_
            refine lw_call rfl en94 (clone_sl hs (v := subS a c i (i + j)) (l := (b.take (i + j)).drop i) (hr.subB (by omega) (by omega)) (by simp; omega)) ?_
            clear hs
            rintro _ w ⟨a49, c49, rfl, hs⟩
            rw [bytesL_len] at hs
            refine lw_store (v := .slice _ _ _) hs 7 rfl sz64 rfl rfl rfl rfl ?_
            clear hs
            intro w hs
            try simp only [List.set_cons_succ, List.set_cons_zero] at hs
            refine lw_nil ?_
            refine cw_seq ?_
            refine cw_region ?_
            refine lw_val rfl (run_assign (v := .nilIface) rfl) ?_
            refine lw_nil ?_
            refine cw_ret ?_
            refine res1 (v := .nilIface) rfl rfl ?_
            have hp : st.get1 n i j = (0, (b.take (i + j)).drop i) := by simp only [St.get1, ho]; rw [if_neg (by omega)]; simp
            rw [hp]
            simp only [bytesL_len] at hs
            exact ⟨_, rfl, a49, c49, (errV_zero ad).symm, hs.closeS1⟩
/-- What Get tells: bytes, code; the store behind it. -/
def St.getR (n : ByteArray) (off m : Int) (st : St) : List UInt8 × Nat × St := if st.next = 1 ∨ st.next = 2 then ([], 111, st.begin) else ((st.begin.get1 n off m).2, (st.begin.get1 n off m).1, st.begin)
theorem get1_bad {n : ByteArray} {off m : Int} {st : St} (h : (st.get1 n off m).1 ≠ 0) : (st.get1 n off m).2 = [] := by
  cases ho : aget st.objs n with
  | none => simp [St.get1, ho]
  | some b =>
    simp only [St.get1, ho] at h ⊢
    by_cases hc : off < 0 ∨ m < 0 ∨ (b.length : Int) < off ∨ (b.length : Int) - off < m
    · rw [if_pos hc]
    · rw [if_neg hc] at h; exact absurd rfl h
theorem get_sl (hE : ErrG ad g) (hsm : st.small) (hs : Mem g w (StoreC p st :: M)) (hcl : st.calls < 4611686018427387904) (hfl : st.failed < 4611686018427387904) (n : ByteArray) {off m : Int} (hoff : InI64 off) (hm : InI64 m) {out : List UInt8} {k : Nat} {st2 : St} (hk : st.getR n off m = (out, k, st2)) :
    Calls Tryz.prog 45 #[.pointer (some ⟨p, 0, none⟩), .string n, .int .i64 off, .int .i64 m] w
      (Ret fun v w' => ∃ a c, v = .tuple #[.slice a out.length c, errV ad k] ∧ Mem g w' (own (.slice a out.length c) (bytesL out) :: StoreC p st2 :: M)) := by
  have hbs : st.begin.small := hsm
  have k1 : (st.getR n off m).1 = out := by rw [hk]
  have k2 : (st.getR n off m).2.1 = k := by rw [hk]
  have k3 : (st.getR n off m).2.2 = st2 := by rw [hk]
  subst k1 k2 k3
  refine calls_cw Tryz.func45 rfl rfl ?_
  skip
  refine cw_seq ?_
  refine cw_region ?_
  refine lw_box (v := .pointer (some _)) hs rfl rfl ?_
  clear hs
  intro b4 w hs
  try simp only [List.set_cons_succ, List.set_cons_zero] at hs
  refine lw_box (v := .string _) hs rfl rfl ?_
  clear hs
  intro b5 w hs
  try simp only [List.set_cons_succ, List.set_cons_zero] at hs
  refine lw_box (v := .int .i64 _) hs rfl rfl ?_
  clear hs
  intro b6 w hs
  try simp only [List.set_cons_succ, List.set_cons_zero] at hs
  refine lw_box (v := .int .i64 _) hs rfl rfl ?_
  clear hs
  intro b7 w hs
  try simp only [List.set_cons_succ, List.set_cons_zero] at hs
  refine lw_val rfl (run_assign (v := .slice _ _ _) rfl) ?_
  refine lw_val rfl (run_assign (v := .nilIface) rfl) ?_
  refine lw_nil ?_
  refine cw_seq ?_
  refine cw_region ?_
  refine lw_alloc hs rfl ze64 ?_
  clear hs
  intro b10 w hs
  try simp only [List.set_cons_succ, List.set_cons_zero] at hs
  refine lw_nil ?_
  refine cw_seq ?_
  replace hs := hs.pick 5 rfl
  simp only [List.eraseIdx_cons_succ, List.eraseIdx_cons_zero] at hs
  refine cw_region ?_
  refine lw_val rfl (run_load Tryz.underlying26 rfl rfl (hs.cellAt 5 rfl rfl)) ?_
  refine lw_val rfl (run_makeFunc) ?_
  refine lw_call rfl en91 (call_sl (R := fun c w' => ∃ out a k, (c = 0 → (out, c, st.begin) = st.getR n off m) ∧ (c ≠ 0 → ([], c, st.begin) = st.getR n off m) ∧ Mem g w' (own (.slice a out.length k) (bytesL out) :: StoreC p st.begin :: cells b10 [.slice a out.length k] 64 :: M)) (cap := #[.pointer (some ⟨b4, 0, none⟩), .pointer (some ⟨b5, 0, none⟩), .pointer (some ⟨b6, 0, none⟩), .pointer (some ⟨b7, 0, none⟩), .pointer (some ⟨b10, 0, none⟩)]) hE hs hcl hfl en151 (fun h1 w1 hs => ⟨[], none, 0, (fun h => by cases h), fun _ => by simp [St.getR, h1], (hs.arr [0, 1] 6 (by decide)).addE (own_nil _)⟩) (fun h1 w1 hs => (getC_sl hE hbs hoff hm hs).mono (by rintro e w2 ⟨v, rfl, a, c, rfl, hs⟩; refine ⟨_, rfl, _, rfl, hs.nil, (st.begin.get1 n off m).2, a, c, ?_, ?_, hs.arr [0, 1, 2] 7 (by decide)⟩ <;> (by_cases h2 : st.next = 2 <;> simp [St.getR, h1, h2]; try exact get1_bad)))) ?_
  clear hs
  rintro _ w ⟨c14, rfl, out, a14, k14, h0, h1, hs⟩
  refine lw_val rfl (run_assign (v := errV ad _) rfl) ?_
  refine lw_nil ?_
  refine cw_seq ?_
  refine cw_seq ?_
  refine cw_region ?_
  refine lw_val rfl (run_move (v := errV ad _) rfl) ?_
  refine lw_val rfl (run_neerrn (ad := ad) rfl) ?_
  refine lw_nil ?_
  refine cw_if rfl ?_ ?_
  · intro h16
    have g16 := ne_t h16
    refine cw_seq ?_
    refine cw_region ?_
    refine lw_val rfl (run_move (v := errV ad _) rfl) ?_
    refine lw_val rfl (run_assign (v := .slice _ _ _) rfl) ?_
    refine lw_val rfl (run_assign (v := errV ad _) rfl) ?_
    refine lw_nil ?_
    refine cw_ret ?_
    refine res2 (v := .slice _ _ _) (v2 := errV ad _) rfl rfl rfl ?_
    rw [← h1 g16]
    exact ⟨_, rfl, none, 0, rfl, (hs.arr [1] 3 (by decide)).addE (own_nil _)⟩
  · intro h16
    have g16 := ne_f h16
    refine cw_skip ?_
    refine cw_seq ?_
    refine cw_region ?_
    refine lw_val rfl (run_load Tryz.underlying64 rfl rfl (hs.cellAt 2 rfl rfl)) ?_
    refine lw_val rfl (run_assign (v := .slice _ _ _) rfl) ?_
    refine lw_val rfl (run_assign (v := .nilIface) rfl) ?_
    refine lw_nil ?_
    refine cw_ret ?_
    refine res2 (v := .slice _ _ _) (v2 := .nilIface) rfl rfl rfl ?_
    rw [← h0 g16]
    exact ⟨_, rfl, a14, k14, by rw [g16, errV_zero], hs.arr [0, 1] 3 (by decide)⟩
end Go.Proofs.YtkogkokmcmallaaGreatDoor
