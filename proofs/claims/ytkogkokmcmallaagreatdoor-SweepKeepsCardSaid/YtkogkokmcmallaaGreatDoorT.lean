/- The store, over chunks: what it is in memory; New, Calls, Failed, call. -/
import Derived.Test.YtkogkokmcmallaaGreatDoorSL
import Derived.Test.YtkogkokmcmallaaGreatDoorZb
import Derived.Test.YtkogkokmcmallaaGreatDoorZs
namespace Go.Proofs.YtkogkokmcmallaaGreatDoor
set_option linter.all false
open Go.RowKit
attribute [local irreducible] errV
variable {g w : World} {L M : List HP} {ad : Nat → Addr} {p : Nat} {st : St}

/-- Bytes that are read alone. -/
abbrev rdB (v : Value) (b : List UInt8) : HP := rd v (bytesL b)
abbrev objsC (es : List (ByteArray × Value)) (objs : List (ByteArray × List UInt8)) : HP := famC rdB es objs
abbrev partsC (ps : List (Int × Value)) (l : List (Int × List UInt8)) : HP := famC rdB ps l
abbrev mapS (m : Nat) (es : List (ByteArray × Value)) : HP := mapC Value.string m es
abbrev mapI (m : Nat) (es : List (Int × Value)) : HP := mapC (Value.int .i64) m es
/-- An upload: its block, the block of its map. -/
def upC (e : Nat × Nat) (u : Up) : HP := ex fun ps : List (Int × Value) => stars [cells e.1 [.string u.name, .map (some e.2)] 148, mapI e.2 ps, partsC ps u.parts]
def storeL (mo mu : Nat) (ids : Nat) (sv : Value) (calls failed : Nat) : List Value := [.map (some mo), .map (some mu), .int .i64 ids, sv, .int .i64 calls, .int .i64 failed]
/-- The chunks of a store. -/
abbrev storeParts (p : Nat) (st : St) (mo mu : Nat) (sv : Value) (es : List (ByteArray × Value)) (us : List (Int × Nat × Nat)) : List HP :=
  [cells p (storeL mo mu st.ids sv st.calls st.failed) 135, mapS mo es, objsC es st.objs, mapI mu (us.map upPtr), famC upC us st.ups, own sv (intsL st.script)]
def StoreC (p : Nat) (st : St) : HP := ex fun x : Nat × Nat × Value × List (ByteArray × Value) × List (Int × Nat × Nat) => stars (storeParts p st x.1 x.2.1 x.2.2.1 x.2.2.2.1 x.2.2.2.2)
theorem own_slice {i : Nat} {v : Value} {l : List Value} (hs : Mem g w L) (hi : L[i]? = some (own v l)) : ∃ a n c, v = .slice a n c ∧ n = l.length := by
  obtain ⟨F, ⟨⟨a, n, c, h1, h2, _⟩, _⟩⟩ := hs.read hi
  exact ⟨a, n, c, h1, h2⟩
theorem Mem.openS (hs : Mem g w (StoreC p st :: L)) : ∃ mo mu a n c es us, n = st.script.length ∧ Mem g w (storeParts p st mo mu (.slice a n c) es us ++ L) := by
  obtain ⟨⟨mo, mu, sv, es, us⟩, h⟩ := hs.unex
  have h := h.unstars
  obtain ⟨a, n, c, rfl, hn⟩ := own_slice h (i := 5) rfl
  exact ⟨mo, mu, a, n, c, es, us, by simpa [intsL] using hn, h⟩
theorem Mem.closeS {mo mu : Nat} {sv : Value} {es : List (ByteArray × Value)} {us : List (Int × Nat × Nat)} (hs : Mem g w (storeParts p st mo mu sv es us ++ L)) : Mem g w (StoreC p st :: L) := Mem.ex (mo, mu, sv, es, us) hs.stars

theorem Mem.closeS1 {C : HP} {mo mu : Nat} {sv : Value} {es : List (ByteArray × Value)} {us : List (Int × Nat × Nat)} (hs : Mem g w (C :: (storeParts p st mo mu sv es us ++ L))) : Mem g w (C :: StoreC p st :: L) :=
  (Mem.closeS (L := C :: L) (hs.arr [1, 2, 3, 4, 5, 6, 0] 7 (by decide))).arr [1, 0] 2 (by decide)

theorem new_sl (hs : Mem g w L) : Calls Tryz.prog 11 #[] w (Ret fun v w' => ∃ p, v = .pointer (some ⟨p, 0, none⟩) ∧ Mem g w' (StoreC p St.empty :: L)) := by
  refine calls_cw Tryz.func11 rfl rfl ?_
  skip
  refine cw_seq ?_
  refine cw_region ?_
  refine lw_val rfl (run_assign (v := .pointer none) rfl) ?_
  refine lw_nil ?_
  refine cw_seq ?_
  refine cw_region ?_
  refine lw_makeMap Value.string hs rfl ?_
  clear hs
  intro m1 w hs
  try simp only [List.set_cons_succ, List.set_cons_zero] at hs
  refine lw_makeMap (Value.int .i64) hs rfl ?_
  clear hs
  intro m2 w hs
  try simp only [List.set_cons_succ, List.set_cons_zero] at hs
  refine lw_val rfl (run_build (cs := [.map (some m1), .map (some m2), .int .i64 0, .slice none 0 0, .int .i64 0, .int .i64 0]) Tryz.underlying135 ze135 pl135 rfl) ?_
  refine lw_box (v := .agg _) hs rfl rfl ?_
  clear hs
  intro b4 w hs
  refine lw_val rfl (run_assign (v := .pointer (some _)) rfl) ?_
  refine lw_nil ?_
  refine cw_ret ?_
  refine res1 (v := .pointer (some _)) rfl rfl ?_
  refine ⟨_, rfl, b4, rfl, Mem.closeS (st := St.empty) (mo := m1) (mu := m2) (sv := .slice none 0 0) (es := []) (us := []) ?_⟩
  exact (((hs.addE (own_nil _)).addE (famC_nil _)).addE (famC_nil _)).arr [3, 5, 0, 4, 1, 2] 6 (by decide)
theorem calls_sl (hs : Mem g w (StoreC p st :: L)) : Calls Tryz.prog 86 #[.pointer (some ⟨p, 0, none⟩)] w (Ret fun v w' => v = .int .i64 st.calls ∧ Mem g w' (StoreC p st :: L)) := by
  obtain ⟨mo, mu, a, n, c, es, us, hn, hs⟩ := hs.openS
  refine calls_cw Tryz.func86 rfl rfl ?_
  skip
  refine cw_seq ?_
  refine cw_region ?_
  refine lw_val rfl (run_assign (v := .int .i64 _) rfl) ?_
  refine lw_nil ?_
  refine cw_seq ?_
  refine cw_region ?_
  refine lw_val rfl (run_move (v := .pointer (some _)) rfl) ?_
  refine lw_val rfl (run_nilCheckP rfl) ?_
  refine lw_val rfl (run_fieldAddr (o' := 4) Tryz.underlying135 rfl sz3 rfl rfl rfl) ?_
  refine lw_val rfl (run_load Tryz.underlying3 rfl rfl (hs.cellAt 0 rfl rfl)) ?_
  refine lw_val rfl (run_assign (v := .int .i64 _) rfl) ?_
  refine lw_nil ?_
  refine cw_ret ?_
  refine res1 (v := .int .i64 _) rfl rfl ?_
  exact ⟨_, rfl, rfl, hs.closeS⟩
theorem failed_sl (hs : Mem g w (StoreC p st :: L)) : Calls Tryz.prog 166 #[.pointer (some ⟨p, 0, none⟩)] w (Ret fun v w' => v = .int .i64 st.failed ∧ Mem g w' (StoreC p st :: L)) := by
  obtain ⟨mo, mu, a, n, c, es, us, hn, hs⟩ := hs.openS
  refine calls_cw Tryz.func166 rfl rfl ?_
  skip
  refine cw_seq ?_
  refine cw_region ?_
  refine lw_val rfl (run_assign (v := .int .i64 _) rfl) ?_
  refine lw_nil ?_
  refine cw_seq ?_
  refine cw_region ?_
  refine lw_val rfl (run_move (v := .pointer (some _)) rfl) ?_
  refine lw_val rfl (run_nilCheckP rfl) ?_
  refine lw_val rfl (run_fieldAddr (o' := 5) Tryz.underlying135 rfl sz3 rfl rfl rfl) ?_
  refine lw_val rfl (run_load Tryz.underlying3 rfl rfl (hs.cellAt 0 rfl rfl)) ?_
  refine lw_val rfl (run_assign (v := .int .i64 _) rfl) ?_
  refine lw_nil ?_
  refine cw_ret ?_
  refine res1 (v := .int .i64 _) rfl rfl ?_
  exact ⟨_, rfl, rfl, hs.closeS⟩

section
variable {f : FuncId} {cap : Array Value}
/-- Whatever a closure does within a call. -/
theorem call_sl (hE : ErrG ad g) (hs : Mem g w (StoreC p st :: M)) (hcl : st.calls < 4611686018427387904) (hfl : st.failed < 4611686018427387904) {R : Nat → World → Prop} (hf : ∀ args w, (callFunc f args).run Tryz.prog w = .ok (.enter f args) w)
    (hR : st.next = 1 → ∀ w1, Mem g w1 (StoreC p st.begin :: M) → R 111 w1)
    (hdo : st.next ≠ 1 → ∀ w1, Mem g w1 (StoreC p st.begin :: M) → Calls Tryz.prog f cap w1 (Ret fun v w2 => ∃ c, v = errV ad c ∧ Mem g w2 [] ∧ R (if st.next = 2 then 111 else c) w2)) :
    Calls Tryz.prog 91 #[.pointer (some ⟨p, 0, none⟩), .func (.func f) #[] cap] w (Ret fun v w' => ∃ c, v = errV ad c ∧ R c w') := by
  obtain ⟨mo, mu, a, n, c, es, us, hn, hs⟩ := hs.openS
  have hb0 : st.script = [] → st.next = 0 ∧ st.begin = { st with calls := st.calls + 1 } := fun h => by simp [St.next, St.begin, h]
  have hb1 : ∀ x r, st.script = x :: r → st.next = x ∧ st.begin = { st with calls := st.calls + 1, script := r, failed := st.failed + (if x = 1 ∨ x = 2 then 1 else 0) } := fun x r h => by simp [St.next, St.begin, h]
  refine calls_cw Tryz.func91 rfl rfl ?_
  skip
  refine cw_seq ?_
  refine cw_region ?_
  refine lw_val rfl (run_assign (v := .nilIface) rfl) ?_
  refine lw_nil ?_
  refine cw_seq ?_
  refine cw_region ?_
  refine lw_val rfl (run_move (v := .pointer (some _)) rfl) ?_
  refine lw_val rfl (run_nilCheckP rfl) ?_
  refine lw_val rfl (run_fieldAddr (o' := 4) Tryz.underlying135 rfl sz3 rfl rfl rfl) ?_
  refine lw_val rfl (run_load Tryz.underlying3 rfl rfl (hs.cellAt 0 rfl rfl)) ?_
  refine lw_val rfl (run_add64 rfl rfl rfl (inI (by omega) (by omega))) ?_
  refine lw_val rfl (run_nilCheckP rfl) ?_
  refine lw_val rfl (run_fieldAddr (o' := 4) Tryz.underlying135 rfl sz3 rfl rfl rfl) ?_
  refine lw_store (v := .int .i64 _) hs 0 rfl sz3 rfl rfl rfl rfl ?_
  clear hs
  intro w hs
  try simp only [List.set_cons_succ, List.set_cons_zero] at hs
  refine lw_nil ?_
  refine cw_seq ?_
  refine cw_region ?_
  refine lw_val rfl (run_assign (v := .int .i64 _) rfl) ?_
  refine lw_nil ?_
  refine cw_seq ?_
  refine cw_seq ?_
  refine cw_region ?_
  refine lw_val rfl (run_move (v := .pointer (some _)) rfl) ?_
  refine lw_val rfl (run_nilCheckP rfl) ?_
  refine lw_val rfl (run_fieldAddr (o' := 3) Tryz.underlying135 rfl sz22 rfl rfl rfl) ?_
  refine lw_val rfl (run_load Tryz.underlying22 rfl rfl (hs.cellAt 0 rfl rfl)) ?_
  refine lw_val rfl (run_lenS Tryz.underlying22 rfl) ?_
  refine lw_val rfl (run_gtr rfl rfl) ?_
  refine lw_nil ?_
  refine cw_if rfl ?_ ?_
  · intro h18
    have g18 := of_decide_eq_true h18
    obtain ⟨x, r, hx⟩ : ∃ x r, st.script = x :: r := by cases h : st.script with | nil => rw [h] at hn; simp at hn; omega | cons x r => exact ⟨x, r, rfl⟩
    obtain ⟨hnx, hbe⟩ := hb1 x r hx
    have hnr : n = r.length + 1 := by rw [hn, hx]; rfl
    simp only [storeParts, List.cons_append, List.nil_append, hx, intsL, List.map_cons] at hs
    obtain ⟨b, off, rfl, hcell⟩ := hs.ownCells 5 rfl (by simp)
    refine cw_seq ?_
    refine cw_region ?_
    refine lw_val rfl (run_move (v := .pointer (some _)) rfl) ?_
    refine lw_val rfl (run_nilCheckP rfl) ?_
    refine lw_val rfl (run_fieldAddr (o' := 3) Tryz.underlying135 rfl sz22 rfl rfl rfl) ?_
    refine lw_val rfl (run_load Tryz.underlying22 rfl rfl (hs.cellAt 0 rfl rfl)) ?_
    refine lw_val rfl (run_indexAddr Tryz.underlying22 sz3 rfl rfl (i := 0) rfl (by omega) rfl) ?_
    refine lw_val rfl (run_load Tryz.underlying3 rfl rfl (hcell 0 _ rfl)) ?_
    refine lw_val rfl (run_assign (v := .int .i64 _) rfl) ?_
    refine lw_nil ?_
    refine cw_region ?_
    refine lw_val rfl (run_move (v := .pointer (some _)) rfl) ?_
    refine lw_val rfl (run_move (v := .pointer (some _)) rfl) ?_
    refine lw_val rfl (run_nilCheckP rfl) ?_
    refine lw_val rfl (run_fieldAddr (o' := 3) Tryz.underlying135 rfl sz22 rfl rfl rfl) ?_
    refine lw_val rfl (run_load Tryz.underlying22 rfl rfl (hs.cellAt 0 rfl rfl)) ?_
    refine lw_val rfl (run_sliceFrom Tryz.underlying22 sz3 rfl rfl (lo := 1) rfl (by omega)) ?_
    refine lw_val rfl (run_nilCheckP rfl) ?_
    refine lw_val rfl (run_fieldAddr (o' := 3) Tryz.underlying135 rfl sz22 rfl rfl rfl) ?_
    refine lw_store (v := .slice _ _ _) hs 0 rfl sz22 rfl rfl rfl rfl ?_
    clear hs
    intro w hs
    try simp only [List.set_cons_succ, List.set_cons_zero] at hs
    refine lw_nil ?_
    replace hs := hs.cut 5 rfl (lo := 1) (hi := n) (by omega) (Nat.le_refl _)
    rw [List.take_of_length_le (by simp; omega)] at hs
    refine cw_seq ?_
    refine cw_seq ?_
    refine cw_region ?_
    refine lw_val rfl (run_move (v := .int .i64 _) rfl) ?_
    refine lw_nil ?_
    refine cw_block ?_
    refine cw_seq ?_
    refine cw_region ?_
    refine lw_val rfl (run_eqi rfl rfl) ?_
    refine lw_val rfl (run_assign (v := .bool _) rfl) ?_
    refine lw_nil ?_
    refine cw_if rfl ?_ ?_
    · intro h35
      have g35 := of_decide_eq_true h35
      refine cw_seq ?_
      refine cw_region ?_
      refine lw_val rfl (run_move (v := .pointer (some _)) rfl) ?_
      refine lw_val rfl (run_nilCheckP rfl) ?_
      refine lw_val rfl (run_fieldAddr (o' := 5) Tryz.underlying135 rfl sz3 rfl rfl rfl) ?_
      refine lw_val rfl (run_load Tryz.underlying3 rfl rfl (hs.cellAt 0 rfl rfl)) ?_
      refine lw_val rfl (run_add64 rfl rfl rfl (inI (by omega) (by omega))) ?_
      refine lw_val rfl (run_nilCheckP rfl) ?_
      refine lw_val rfl (run_fieldAddr (o' := 5) Tryz.underlying135 rfl sz3 rfl rfl rfl) ?_
      refine lw_store (v := .int .i64 _) hs 0 rfl sz3 rfl rfl rfl rfl ?_
      clear hs
      intro w hs
      try simp only [List.set_cons_succ, List.set_cons_zero] at hs
      refine lw_nil ?_
      refine cw_seq ?_
      refine cw_region ?_
      refine lw_val rfl (run_load Tryz.underlying30 rfl rfl (hE.cellW hs 111 (by decide) rfl)) ?_
      refine lw_val rfl (run_assign (v := errV ad _) rfl) ?_
      refine lw_nil ?_
      refine cw_ret ?_
      refine res1 (v := errV ad _) rfl rfl ?_
      exact ⟨_, rfl, 111, rfl, hR (by omega) _ (by rw [hbe, g35]; exact hs.closeS)⟩
    · intro h35
      have g35 := of_decide_eq_false h35
      refine cw_seq ?_
      refine cw_region ?_
      refine lw_val rfl (run_eqi rfl rfl) ?_
      refine lw_val rfl (run_assign (v := .bool _) rfl) ?_
      refine lw_nil ?_
      refine cw_if rfl ?_ ?_
      · intro h45
        have g45 := of_decide_eq_true h45
        refine cw_seq ?_
        refine cw_region ?_
        refine lw_val rfl (run_move (v := .pointer (some _)) rfl) ?_
        refine lw_val rfl (run_nilCheckP rfl) ?_
        refine lw_val rfl (run_fieldAddr (o' := 5) Tryz.underlying135 rfl sz3 rfl rfl rfl) ?_
        refine lw_val rfl (run_load Tryz.underlying3 rfl rfl (hs.cellAt 0 rfl rfl)) ?_
        refine lw_val rfl (run_add64 rfl rfl rfl (inI (by omega) (by omega))) ?_
        refine lw_val rfl (run_nilCheckP rfl) ?_
        refine lw_val rfl (run_fieldAddr (o' := 5) Tryz.underlying135 rfl sz3 rfl rfl rfl) ?_
        refine lw_store (v := .int .i64 _) hs 0 rfl sz3 rfl rfl rfl rfl ?_
        clear hs
        intro w hs
        try simp only [List.set_cons_succ, List.set_cons_zero] at hs
        refine lw_nil ?_
        refine cw_seq ?_
        refine cw_region ?_
        refine lw_val rfl (run_move (v := .func _ _ _) rfl) ?_
        refine lw_callv0 rfl hf rfl (hdo (by omega) w (by rw [hbe, g45]; exact hs.closeS)) ?_
        clear hs
        rintro _ w ⟨c1, rfl, hs, hR2⟩
        refine lw_nil ?_
        refine cw_seq ?_
        refine cw_region ?_
        refine lw_val rfl (run_load Tryz.underlying30 rfl rfl (hE.cellW hs 111 (by decide) rfl)) ?_
        refine lw_val rfl (run_assign (v := errV ad _) rfl) ?_
        refine lw_nil ?_
        refine cw_ret ?_
        refine res1 (v := errV ad _) rfl rfl ?_
        exact ⟨_, rfl, 111, rfl, by rw [if_pos (by omega)] at hR2; exact hR2⟩
      · intro h45
        have g45 := of_decide_eq_false h45
        refine cw_skip ?_
        refine cw_seq ?_
        refine cw_region ?_
        refine lw_val rfl (run_move (v := .func _ _ _) rfl) ?_
        refine lw_callv0 rfl hf rfl (hdo (by omega) w (by rw [hbe, if_neg (by omega)]; exact hs.closeS)) ?_
        clear hs
        rintro _ w ⟨c1, rfl, hs, hR2⟩
        refine lw_val rfl (run_assign (v := errV ad _) rfl) ?_
        refine lw_nil ?_
        refine cw_ret ?_
        refine res1 (v := errV ad _) rfl rfl ?_
        exact ⟨_, rfl, c1, rfl, by rw [if_neg (by omega)] at hR2; exact hR2⟩
  · intro h18
    have g18 := of_decide_eq_false h18
    obtain ⟨hnx, hbe⟩ := hb0 (List.eq_nil_of_length_eq_zero (by omega))
    refine cw_skip ?_
    refine cw_seq ?_
    refine cw_seq ?_
    refine cw_region ?_
    refine lw_val rfl (run_move (v := .int .i64 _) rfl) ?_
    refine lw_nil ?_
    refine cw_block ?_
    refine cw_seq ?_
    refine cw_region ?_
    refine lw_val rfl (run_eqi rfl rfl) ?_
    refine lw_val rfl (run_assign (v := .bool _) rfl) ?_
    refine lw_nil ?_
    refine cw_iff rfl (rfl) ?_
    refine cw_seq ?_
    refine cw_region ?_
    refine lw_val rfl (run_eqi rfl rfl) ?_
    refine lw_val rfl (run_assign (v := .bool _) rfl) ?_
    refine lw_nil ?_
    refine cw_iff rfl (rfl) ?_
    refine cw_skip ?_
    refine cw_seq ?_
    refine cw_region ?_
    refine lw_val rfl (run_move (v := .func _ _ _) rfl) ?_
    refine lw_callv0 rfl hf rfl (hdo (by omega) w (by rw [hbe]; exact hs.closeS)) ?_
    clear hs
    rintro _ w ⟨c1, rfl, hs, hR2⟩
    refine lw_val rfl (run_assign (v := errV ad _) rfl) ?_
    refine lw_nil ?_
    refine cw_ret ?_
    refine res1 (v := errV ad _) rfl rfl ?_
    exact ⟨_, rfl, c1, rfl, by rw [if_neg (by omega)] at hR2; exact hR2⟩
theorem call_err (hE : ErrG ad g) (hs : Mem g w (StoreC p st :: M)) (hcl : st.calls < 4611686018427387904) (hfl : st.failed < 4611686018427387904) (good : St → Nat × St) (hf : ∀ args w, (callFunc f args).run Tryz.prog w = .ok (.enter f args) w)
    (hdo : ∀ w1, Mem g w1 (StoreC p st.begin :: M) → Calls Tryz.prog f cap w1 (Ret fun v w2 => v = errV ad (good st.begin).1 ∧ Mem g w2 (StoreC p (good st.begin).2 :: M))) :
    Calls Tryz.prog 91 #[.pointer (some ⟨p, 0, none⟩), .func (.func f) #[] cap] w (Ret fun v w' => v = errV ad (st.run good).1 ∧ Mem g w' (StoreC p (st.run good).2 :: M)) := by
  refine (call_sl hE hs hcl hfl (R := fun c w' => c = (st.run good).1 ∧ Mem g w' (StoreC p (st.run good).2 :: M)) hf ?_ ?_).mono ?_
  · intro hn w1 h1
    simp only [St.run, hn, if_true]
    exact ⟨trivial, h1⟩
  · intro hn w1 h1
    refine (hdo w1 h1).mono ?_
    rintro e w2 ⟨v, rfl, rfl, h2⟩
    refine ⟨_, rfl, _, rfl, h2.nil, ?_⟩
    simp only [St.run, hn, if_false]
    exact ⟨trivial, h2⟩
  · rintro e w2 ⟨v, rfl, c, rfl, rfl, h2⟩
    exact ⟨_, rfl, rfl, h2⟩
end
/-! ### Put -/
theorem Mem.ownRd (hs : Mem g w L) (i : Nat) {v : Value} {l : List Value} (hi : L[i]? = some (own v l)) : Mem g w (L.set i (rd v l)) := by
  obtain ⟨F, ⟨g1, g2⟩, g3⟩ := hs.turn hi
  exact g3 w _ F ⟨g1.seq, g1.lt, g2⟩ (fun _ h => .inl h) (Keeps.refl _ _)
theorem putC_sl (hE : ErrG ad g) {bb nb sb : Nat} {n : ByteArray} {b : List UInt8} {a : Option Addr} {m c : Nat} (hs : Mem g w (StoreC p st :: cells bb [.slice a m c] 64 :: cells nb [.string n] 9 :: cells sb [.pointer (some ⟨p, 0, none⟩)] 26 :: M)) (hr : Rd g M (.slice a m c) (bytesL b)) (hlen : b.length ≤ 1073741824) :
    Calls Tryz.prog 92 #[.pointer (some ⟨nb, 0, none⟩), .pointer (some ⟨bb, 0, none⟩), .pointer (some ⟨sb, 0, none⟩)] w (Ret fun v w' => v = errV ad (st.put1 n b).1 ∧ Mem g w' (StoreC p (st.put1 n b).2 :: cells bb [.slice a m c] 64 :: cells nb [.string n] 9 :: cells sb [.pointer (some ⟨p, 0, none⟩)] 26 :: M)) := by
  obtain ⟨mo, mu, sa, sn, sc, es, us, hn, hs⟩ := hs.openS
  have hr2 := hr.cons (C := cells sb [.pointer (some ⟨p, 0, none⟩)] 26) |>.cons (C := cells nb [.string n] 9) |>.cons (C := cells bb [.slice a m c] 64)
  simp only [storeParts, List.cons_append, List.nil_append] at hs
  refine calls_cw Tryz.func92 rfl rfl ?_
  skip
  refine cw_seq ?_
  refine cw_region ?_
  refine lw_val rfl (run_assign (v := .nilIface) rfl) ?_
  refine lw_nil ?_
  refine cw_seq ?_
  refine cw_seq ?_
  refine cw_region ?_
  refine lw_val rfl (run_load Tryz.underlying9 rfl rfl (hs.cellAt 7 rfl rfl)) ?_
  refine lw_call rfl en93 (valid_sl hs n) ?_
  clear hs
  rintro _ w ⟨rfl, hs⟩
  refine lw_val rfl (run_not rfl) ?_
  refine lw_nil ?_
  refine cw_if rfl ?_ ?_
  · intro h5
    replace h5 := not_b h5
    refine cw_seq ?_
    refine cw_region ?_
    refine lw_val rfl (run_load Tryz.underlying30 rfl rfl (hE.cellW hs 106 (by decide) rfl)) ?_
    refine lw_val rfl (run_assign (v := errV ad _) rfl) ?_
    refine lw_nil ?_
    refine cw_ret ?_
    refine res1 (v := errV ad _) rfl rfl ?_
    have hp : st.put1 n b = (106, st) := by simp [St.put1, h5]
    rw [hp]
    exact ⟨_, rfl, rfl, hs.closeS⟩
  · intro h5
    replace h5 := not_c h5
    refine cw_skip ?_
    refine cw_seq ?_
    refine cw_drawS mixes (hs.drop 1) ?_
    intro w tr hK
    replace hs := tr _ hs
    clear tr
    refine aw_take 0 rfl (by kernel_rfl) (by kernel_rfl) (by kernel_rfl) rfl (fun w hs => run_load Tryz.underlying26 rfl rfl (hs.cellAt 7 rfl rfl)) hK ?_
    refine aw_take 1 rfl (by kernel_rfl) (by kernel_rfl) (by kernel_rfl) rfl (fun w hs => run_nilCheckP rfl) hK ?_
    refine aw_take 2 rfl (by kernel_rfl) (by kernel_rfl) (by kernel_rfl) rfl (fun w hs => run_fieldAddr (o' := 0) Tryz.underlying135 rfl sz132 rfl rfl rfl) hK ?_
    refine aw_take 3 rfl (by kernel_rfl) (by kernel_rfl) (by kernel_rfl) rfl (fun w hs => run_load Tryz.underlying132 rfl rfl (hs.cellAt 0 rfl rfl)) hK ?_
    refine aw_take 4 rfl (by kernel_rfl) (by kernel_rfl) (by kernel_rfl) rfl (fun w hs => run_load Tryz.underlying9 rfl rfl (hs.cellAt 6 rfl rfl)) hK ?_
    refine aw_take 5 rfl (by kernel_rfl) (by kernel_rfl) (by kernel_rfl) rfl (fun w hs => run_load Tryz.underlying64 rfl rfl (hs.cellAt 5 rfl rfl)) hK ?_
    refine aw_ready [6] (by kernel_rfl) (by simp) ?_
    refine ⟨⟨_, rfl, ?_⟩, trivial⟩
    refine lw_call rfl en94 (clone_sl hs (l := b) hr2.cons.cons.cons.cons.cons.cons hlen) ?_
    clear hs
    rintro _ w ⟨a14, c14, rfl, hs⟩
    clear hK
    have hK := hs.tail.drop 1
    refine lw_nil ⟨hK, ?_⟩
    refine aw_ready [7] (by kernel_rfl) (by simp) ?_
    refine ⟨⟨_, rfl, ?_⟩, trivial⟩
    refine lw_mapUpdate (v := .slice _ _ _) hs 2 rfl strKind Tryz.underlying132 Tryz.underlying9 rfl rfl rfl ?_
    clear hs
    intro w hs
    try simp only [List.set_cons_succ, List.set_cons_zero] at hs
    clear hK
    have hK := hs.tail.drop 1
    refine lw_nil ⟨hK, ?_⟩
    refine aw_done (by kernel_rfl) ?_
    clear hK
    refine cw_seq ?_
    refine cw_region ?_
    refine lw_val rfl (run_assign (v := .nilIface) rfl) ?_
    refine lw_nil ?_
    refine cw_ret ?_
    refine res1 (v := .nilIface) rfl rfl ?_
    have hp : st.put1 n b = (0, { st with objs := aput st.objs n b }) := by simp [St.put1, h5]
    rw [hp]
    replace hs := Mem.famPut (R := rdB) (k := n) (b := b) (hs.ownRd 0 rfl) 2 rfl (fun _ h => False.elim h)
    exact ⟨_, rfl, (errV_zero ad).symm, Mem.closeS (es := aput es n (.slice a14 (bytesL b).length c14)) hs⟩
theorem put_sl (hE : ErrG ad g) (hs : Mem g w (StoreC p st :: M)) (hcl : st.calls < 4611686018427387904) (hfl : st.failed < 4611686018427387904) {n : ByteArray} {b : List UInt8} {a : Option Addr} {m c : Nat} (hr : Rd g M (.slice a m c) (bytesL b)) (hlen : b.length ≤ 1073741824) {k : Nat} {st2 : St} (hk : st.run (St.put1 n b) = (k, st2)) :
    Calls Tryz.prog 14 #[.pointer (some ⟨p, 0, none⟩), .string n, .slice a m c] w (Ret fun v w' => v = errV ad k ∧ Mem g w' (StoreC p st2 :: M)) := by
  have k1 : (st.run (St.put1 n b)).1 = k := by rw [hk]
  have k2 : (st.run (St.put1 n b)).2 = st2 := by rw [hk]
  subst k1 k2
  refine calls_cw Tryz.func14 rfl rfl ?_
  skip
  refine cw_seq ?_
  refine cw_region ?_
  refine lw_box (v := .pointer (some _)) hs rfl rfl ?_
  clear hs
  intro b3 w hs
  try simp only [List.set_cons_succ, List.set_cons_zero] at hs
  refine lw_box (v := .string _) hs rfl rfl ?_
  clear hs
  intro b4 w hs
  try simp only [List.set_cons_succ, List.set_cons_zero] at hs
  refine lw_box (v := .slice _ _ _) hs rfl rfl ?_
  clear hs
  intro b5 w hs
  try simp only [List.set_cons_succ, List.set_cons_zero] at hs
  refine lw_val rfl (run_assign (v := .nilIface) rfl) ?_
  refine lw_nil ?_
  refine cw_seq ?_
  replace hs := hs.pick 3 rfl
  simp only [List.eraseIdx_cons_succ, List.eraseIdx_cons_zero] at hs
  refine cw_region ?_
  refine lw_val rfl (run_load Tryz.underlying26 rfl rfl (hs.cellAt 3 rfl rfl)) ?_
  refine lw_val rfl (run_makeFunc) ?_
  refine lw_call rfl en91 (call_err (cap := #[.pointer (some ⟨b4, 0, none⟩), .pointer (some ⟨b5, 0, none⟩), .pointer (some ⟨b3, 0, none⟩)]) hE hs hcl hfl (St.put1 n b) en92 (fun w1 h1 => putC_sl hE h1 hr hlen)) ?_
  clear hs
  rintro _ w ⟨rfl, hs⟩
  refine lw_val rfl (run_assign (v := errV ad _) rfl) ?_
  refine lw_nil ?_
  refine cw_ret ?_
  refine res1 (v := errV ad _) rfl rfl ?_
  exact ⟨_, rfl, rfl, ((hs.drop 1).drop 1).drop 1⟩
end Go.Proofs.YtkogkokmcmallaaGreatDoor
