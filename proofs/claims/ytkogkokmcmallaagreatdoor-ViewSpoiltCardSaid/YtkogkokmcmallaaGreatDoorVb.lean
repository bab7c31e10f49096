/- A view's Apply. -/
import Derived.Test.YtkogkokmcmallaaGreatDoorVa
import Derived.Test.YtkogkokmcmallaaGreatDoorKm
namespace Go.Proofs.YtkogkokmcmallaaGreatDoor
set_option linter.all false
open Go.RowKit
attribute [local irreducible] errV
variable {g w : World} {L M : List HP} {ad : Nat → Addr} {p : Nat} {V : Vw}

/-- What Apply answers and leaves. -/
def ApR (g : World) (ad : Nat → Addr) (L : List HP) (p : Nat) (r : Flt × Vw) (v : Value) (w' : World) : Prop := ∃ eb, v = flV ad r.1 eb ∧ Mem g w' (flC ad r.1 eb :: ViewC p r.2 :: L)
theorem ApR.bare {c : Nat} (hs : Mem g w (ViewC p V :: L)) : ApR g ad L p ((c, none), V) (errV ad c) w := ⟨0, rfl, hs.addE (emp_okF w)⟩
theorem Vw.apply_bad {k : Int} {x : Mf} (h : (mfF x).1 ≠ 0) : V.apply k x = (mfF x, V) := by rw [Vw.apply, if_pos h]
theorem Vw.apply_kind {k : Int} {x : Mf} (h : (mfF x).1 = 0) (h2 : k < 1 ∨ 4 < k) : V.apply k x = ((112, none), V) := by rw [Vw.apply, if_neg (by simpa using h), if_pos h2]
theorem Vw.apply_state {k : Int} {x : Mf} (h : (mfF x).1 = 0) (h2 : ¬ (k < 1 ∨ 4 < k)) (h3 : nextB (V.state x.id) k = false) : V.apply k x = ((113, none), V) := by rw [Vw.apply, if_neg (by simpa using h), if_neg h2, if_pos h3]
theorem Vw.apply_new {k : Int} {x : Mf} (h : (mfF x).1 = 0) (h2 : ¬ (k < 1 ∨ 4 < k)) (h3 : nextB (V.state x.id) k = true) (hV : aget V x.id = none) : V.apply k x = if 4096 ≤ V.length then ((104, none), V) else ((0, none), aput V x.id ⟨k, x⟩) := by rw [Vw.apply, if_neg (by simpa using h), if_neg h2, if_neg (by rw [h3]; decide), hV]
theorem Vw.apply_old {k : Int} {x : Mf} {i : Itm} (h : (mfF x).1 = 0) (h2 : ¬ (k < 1 ∨ 4 < k)) (h3 : nextB (V.state x.id) k = true) (hV : aget V x.id = some i) : V.apply k x = if i.m = x then ((0, none), aput V x.id ⟨k, x⟩) else ((103, none), V) := by rw [Vw.apply, if_neg (by simpa using h), if_neg h2, if_neg (by rw [h3]; decide), hV]
theorem flt0 {f : Flt} (hf : FltOk f) (h : f.1 = 0) : f = (0, none) := by
  rcases hf.1 with h1 | h1
  · exact h1
  · rw [h] at h1; simp at h1
set_option maxHeartbeats 1000000 in
theorem apply_sl (hE : ErrV ad g) (hs : Mem g w (ViewC p V :: L)) (k : Int) {x : Mf} {e o : SA} (hm : MfR g L x e o) (hob : x.obs.length ≤ 1000000) : Calls Tryz.prog 29 #[.pointer (some ⟨p, 0, none⟩), .agg (.int .i64 k :: mfL x e o).toArray] w (Ret (ApR g ad L p (V.apply k x))) := by
  obtain ⟨ho, m, es, hs⟩ := hs.openV
  simp only [viewP, List.cons_append, List.nil_append] at hs
  have hke := hs.famKeys 2 rfl
  cases hV : aget V x.id with
  | none =>
    have hes := fam_none hke hV
    have hst : V.state x.id = 0 := by simp [Vw.state, hV]
    refine calls_cw Tryz.func29 rfl rfl ?_
    skip
    refine cw_seq ?_
    refine cw_region ?_
    refine lw_box (v := .agg _) hs rfl rfl ?_
    clear hs
    intro b3 w hs
    try simp only [List.set_cons_succ, List.set_cons_zero] at hs
    refine lw_val rfl (run_assign (v := .nilIface) rfl) ?_
    refine lw_nil ?_
    refine cw_seq ?_
    refine cw_seq ?_
    refine cw_region ?_
    refine lw_val rfl (run_fieldAddr (o' := 1) Tryz.underlying63 rfl sz36 rfl rfl rfl) ?_
    refine lw_val rfl (run_loadMid hs 0 (mfL x e o) rfl Tryz.underlying36 sz36 rfl rfl) ?_
    refine lw_call rfl en107 (validM_sl hE hs hm.cons.cons.cons.cons hob) ?_
    clear hs
    rintro _ w ⟨eb, rfl, hs⟩
    refine lw_val rfl (run_assign (v := flV ad _ _) rfl) ?_
    refine lw_nil ?_
    refine cw_seq ?_
    refine cw_region ?_
    refine lw_val rfl (run_move (v := flV ad _ _) rfl) ?_
    refine lw_val rfl (run_neF (mfF_ok x).place rfl) ?_
    refine lw_nil ?_
    refine cw_if rfl ?_ ?_
    · intro h12
      have g12 := ne_t h12
      refine cw_seq ?_
      refine cw_region ?_
      refine lw_val rfl (run_move (v := flV ad _ _) rfl) ?_
      refine lw_val rfl (run_assign (v := flV ad _ _) rfl) ?_
      refine lw_nil ?_
      refine cw_ret ?_
      refine res1 (v := flV ad _ _) rfl rfl ?_
      have h0 : (mfF x).1 ≠ 0 := by simpa using h12
      rw [Vw.apply_bad h0]
      exact ⟨_, rfl, eb, rfl, Mem.closeV1 ho (hs.arr [0, 2, 3, 4] 5 (by decide))⟩
    · intro h12
      have g12 := ne_f h12
      have h0 : (mfF x).1 = 0 := by simpa using h12
      replace hs := hs.tail
      refine cw_skip ?_
      refine cw_seq ?_
      refine cw_seq ?_
      refine cw_region ?_
      refine lw_val rfl (run_fieldAddr (o' := 0) Tryz.underlying63 rfl sz3 rfl rfl rfl) ?_
      refine lw_val rfl (run_load Tryz.underlying3 rfl rfl (hs.cellAt 0 rfl rfl)) ?_
      refine lw_val rfl (run_lss rfl rfl) ?_
      refine lw_val rfl (run_move (v := .bool _) rfl) ?_
      refine lw_split (t := _) (d := 17) rfl ?_ ?_
      · intro h16
        have g16 := of_decide_eq_true h16
        refine lw_off rfl rfl rfl h16 ?_
        refine lw_off rfl rfl rfl h16 ?_
        refine lw_off rfl rfl rfl h16 ?_
        refine lw_val rfl (run_pickT (v := .bool _) rfl h16 rfl) ?_
        refine lw_nil ?_
        refine cw_ift rfl rfl ?_
        refine cw_seq ?_
        refine cw_region ?_
        refine lw_val rfl (run_load Tryz.underlying30 rfl rfl (hE.cellW hs 112 (by decide) rfl)) ?_
        refine lw_val rfl (run_assign (v := errV ad _) rfl) ?_
        refine lw_nil ?_
        refine cw_ret ?_
        refine res1 (v := errV ad _) rfl rfl ?_
        rw [Vw.apply_kind h0 (by omega)]
        exact ⟨_, rfl, ApR.bare (Mem.closeV ho hs.tail)⟩
      · intro h16
        have g16 := of_decide_eq_false h16
        refine lw_on rfl rfl h16 ?_
        refine lw_val rfl (run_fieldAddr (o' := 0) Tryz.underlying63 rfl sz3 rfl rfl rfl) ?_
        refine lw_on rfl rfl h16 ?_
        refine lw_val rfl (run_load Tryz.underlying3 rfl rfl (hs.cellAt 0 rfl rfl)) ?_
        refine lw_on rfl rfl h16 ?_
        refine lw_val rfl (run_gtr rfl rfl) ?_
        refine lw_val rfl (run_pickF (v := .bool _) rfl h16 rfl) ?_
        refine lw_nil ?_
        refine cw_if rfl ?_ ?_
        · intro h20
          have g20 := of_decide_eq_true h20
          refine cw_seq ?_
          refine cw_region ?_
          refine lw_val rfl (run_load Tryz.underlying30 rfl rfl (hE.cellW hs 112 (by decide) rfl)) ?_
          refine lw_val rfl (run_assign (v := errV ad _) rfl) ?_
          refine lw_nil ?_
          refine cw_ret ?_
          refine res1 (v := errV ad _) rfl rfl ?_
          rw [Vw.apply_kind h0 (by omega)]
          exact ⟨_, rfl, ApR.bare (Mem.closeV ho hs.tail)⟩
        · intro h20
          have g20 := of_decide_eq_false h20
          refine cw_skip ?_
          refine cw_seq ?_
          refine cw_drawS mixes hs ?_
          intro w tr hK
          replace hs := tr _ hs
          clear tr
          refine aw_take 0 rfl (by kernel_rfl) (by kernel_rfl) (by kernel_rfl) rfl (fun w hs => run_move (v := .pointer (some _)) rfl) hK ?_
          refine aw_take 1 rfl (by kernel_rfl) (by kernel_rfl) (by kernel_rfl) rfl (fun w hs => run_nilCheckP rfl) hK ?_
          refine aw_take 2 rfl (by kernel_rfl) (by kernel_rfl) (by kernel_rfl) rfl (fun w hs => run_fieldAddr (o' := 0) Tryz.underlying162 rfl sz160 rfl rfl rfl) hK ?_
          refine aw_take 3 rfl (by kernel_rfl) (by kernel_rfl) (by kernel_rfl) rfl (fun w hs => run_load Tryz.underlying160 rfl rfl (hs.cellAt 1 rfl rfl)) hK ?_
          refine aw_take 4 rfl (by kernel_rfl) (by kernel_rfl) (by kernel_rfl) rfl (fun w hs => run_fieldAddr (o' := 1) Tryz.underlying63 rfl sz36 rfl rfl rfl) hK ?_
          refine aw_take 5 rfl (by kernel_rfl) (by kernel_rfl) (by kernel_rfl) rfl (fun w hs => run_fieldAddr Tryz.underlying36 rfl sz3 rfl rfl rfl) hK ?_
          refine aw_take 6 rfl (by kernel_rfl) (by kernel_rfl) (by kernel_rfl) rfl (fun w hs => run_load Tryz.underlying3 rfl rfl (hs.cellAt 0 rfl rfl)) hK ?_
          refine aw_take 7 rfl (by kernel_rfl) (by kernel_rfl) (by kernel_rfl) rfl (fun w hs => run_lookupOk (hs.mapAt 2 rfl) intKind Tryz.underlying160 Tryz.underlying3 ze164 rfl rfl (o := none) hes) hK ?_
          refine aw_take 8 rfl (by kernel_rfl) (by kernel_rfl) (by kernel_rfl) rfl (fun w hs => run_move (v := .tuple _) rfl) hK ?_
          refine aw_take 9 rfl (by kernel_rfl) (by kernel_rfl) (by kernel_rfl) rfl (fun w hs => run_extract (v := .agg _) rfl rfl) hK ?_
          refine aw_take 10 rfl (by kernel_rfl) (by kernel_rfl) (by kernel_rfl) rfl (fun w hs => run_extract (v := .bool _) rfl rfl) hK ?_
          refine aw_ready [11] (by kernel_rfl) (by simp) ?_
          refine ⟨⟨_, rfl, ?_⟩, trivial⟩
          refine lw_alloc hs rfl ze164 ?_
          clear hs
          intro b6 w hs
          try simp only [List.set_cons_succ, List.set_cons_zero] at hs
          clear hK
          have hK := hs.tail
          refine lw_nil ⟨hK, ?_⟩
          refine aw_ready [12] (by kernel_rfl) (by simp) ?_
          refine ⟨⟨_, rfl, ?_⟩, trivial⟩
          refine lw_storeRow hs 0 rfl rfl rfl sz164 rfl rfl ?_
          clear hs
          intro w hs
          try simp only [List.set_cons_succ, List.set_cons_zero] at hs
          clear hK
          have hK := hs.tail
          refine lw_nil ⟨hK, ?_⟩
          refine aw_take 13 rfl (by kernel_rfl) (by kernel_rfl) (by kernel_rfl) rfl (fun w hs => run_assign (v := .bool _) rfl) hK ?_
          refine aw_done (by kernel_rfl) ?_
          clear hK
          refine cw_seq ?_
          refine cw_block ?_
          refine cw_seq ?_
          refine cw_region ?_
          refine lw_val rfl (run_fieldAddr (o' := 0) Tryz.underlying164 rfl sz3 rfl rfl rfl) ?_
          refine lw_val rfl (run_load Tryz.underlying3 rfl rfl (hs.cellAt 0 rfl rfl)) ?_
          refine lw_val rfl (run_fieldAddr (o' := 0) Tryz.underlying63 rfl sz3 rfl rfl rfl) ?_
          refine lw_val rfl (run_load Tryz.underlying3 rfl rfl (hs.cellAt 1 rfl rfl)) ?_
          refine lw_call rfl en108 (nextE_sl hs 0 k) ?_
          clear hs
          rintro _ w ⟨rfl, hs⟩
          refine lw_val rfl (run_not rfl) ?_
          refine lw_val rfl (run_assign (v := .bool _) rfl) ?_
          refine lw_nil ?_
          refine cw_if rfl ?_ ?_
          · intro h39
            replace h39 := not_b h39
            refine cw_seq ?_
            refine cw_region ?_
            refine lw_val rfl (run_load Tryz.underlying30 rfl rfl (hE.cellW hs 113 (by decide) rfl)) ?_
            refine lw_val rfl (run_assign (v := errV ad _) rfl) ?_
            refine lw_nil ?_
            refine cw_ret ?_
            refine res1 (v := errV ad _) rfl rfl ?_
            rw [Vw.apply_state h0 (by omega) (by rw [hst]; exact h39)]
            exact ⟨_, rfl, ApR.bare (Mem.closeV ho hs.tail.tail)⟩
          · intro h39
            replace h39 := not_c h39
            refine cw_seq ?_
            refine cw_region ?_
            refine lw_val rfl (run_move (v := .bool _) rfl) ?_
            refine lw_val rfl (run_not rfl) ?_
            refine lw_val rfl (run_move (v := .bool _) rfl) ?_
            refine lw_on rfl rfl (not_t (rfl)) ?_
            refine lw_val rfl (run_move (v := .pointer (some _)) rfl) ?_
            refine lw_on rfl rfl (not_t (rfl)) ?_
            refine lw_val rfl (run_nilCheckP rfl) ?_
            refine lw_on rfl rfl (not_t (rfl)) ?_
            refine lw_val rfl (run_fieldAddr (o' := 0) Tryz.underlying162 rfl sz160 rfl rfl rfl) ?_
            refine lw_on rfl rfl (not_t (rfl)) ?_
            refine lw_val rfl (run_load Tryz.underlying160 rfl rfl (hs.cellAt 2 rfl rfl)) ?_
            refine lw_on rfl rfl (not_t (rfl)) ?_
            refine lw_val rfl (run_lenM (hs.mapAt 3 rfl) Tryz.underlying160 rfl) ?_
            refine lw_on rfl rfl (not_t (rfl)) ?_
            refine lw_val rfl (run_geq rfl rfl) ?_
            refine lw_val rfl (run_pickT (v := .bool _) rfl (not_t (rfl)) rfl) ?_
            refine lw_val rfl (run_assign (v := .bool _) rfl) ?_
            refine lw_nil ?_
            refine cw_if rfl ?_ ?_
            · intro h51
              have g51 := of_decide_eq_true h51
              refine cw_seq ?_
              refine cw_region ?_
              refine lw_val rfl (run_load Tryz.underlying30 rfl rfl (hE.cellW hs 104 (by decide) rfl)) ?_
              refine lw_val rfl (run_assign (v := errV ad _) rfl) ?_
              refine lw_nil ?_
              refine cw_ret ?_
              refine res1 (v := errV ad _) rfl rfl ?_
              have hl := keys_len hke
              rw [Vw.apply_new h0 (by omega) (by rw [hst]; exact h39) hV, if_pos (by omega)]
              exact ⟨_, rfl, ApR.bare (Mem.closeV ho hs.tail.tail)⟩
            · intro h51
              have g51 := of_decide_eq_false h51
              refine cw_seq ?_
              refine cw_region ?_
              refine lw_val rfl (run_move (v := .bool _) rfl) ?_
              refine lw_val rfl (run_move (v := .bool _) rfl) ?_
              refine lw_off rfl rfl rfl (rfl) ?_
              refine lw_off rfl rfl rfl (rfl) ?_
              refine lw_off rfl rfl rfl (rfl) ?_
              refine lw_off rfl rfl rfl (rfl) ?_
              refine lw_off rfl rfl rfl (rfl) ?_
              refine lw_off rfl rfl rfl (rfl) ?_
              refine lw_val rfl (run_pickF (v := .bool _) rfl (rfl) rfl) ?_
              refine lw_val rfl (run_assign (v := .bool _) rfl) ?_
              refine lw_nil ?_
              refine cw_iff rfl rfl ?_
              refine cw_skip ?_
              refine cw_seq ?_
              refine cw_drawS mixes (hs.drop 3) ?_
              intro w tr hK
              replace hs := tr _ hs
              clear tr
              refine aw_take 0 rfl (by kernel_rfl) (by kernel_rfl) (by kernel_rfl) rfl (fun w hs => run_move (v := .pointer (some _)) rfl) hK ?_
              refine aw_take 1 rfl (by kernel_rfl) (by kernel_rfl) (by kernel_rfl) rfl (fun w hs => run_nilCheckP rfl) hK ?_
              refine aw_take 2 rfl (by kernel_rfl) (by kernel_rfl) (by kernel_rfl) rfl (fun w hs => run_fieldAddr (o' := 0) Tryz.underlying162 rfl sz160 rfl rfl rfl) hK ?_
              refine aw_take 3 rfl (by kernel_rfl) (by kernel_rfl) (by kernel_rfl) rfl (fun w hs => run_load Tryz.underlying160 rfl rfl (hs.cellAt 2 rfl rfl)) hK ?_
              refine aw_take 4 rfl (by kernel_rfl) (by kernel_rfl) (by kernel_rfl) rfl (fun w hs => run_fieldAddr (o' := 1) Tryz.underlying63 rfl sz36 rfl rfl rfl) hK ?_
              refine aw_take 5 rfl (by kernel_rfl) (by kernel_rfl) (by kernel_rfl) rfl (fun w hs => run_fieldAddr Tryz.underlying36 rfl sz3 rfl rfl rfl) hK ?_
              refine aw_take 6 rfl (by kernel_rfl) (by kernel_rfl) (by kernel_rfl) rfl (fun w hs => run_load Tryz.underlying3 rfl rfl (hs.cellAt 1 rfl rfl)) hK ?_
              refine aw_take 7 rfl (by kernel_rfl) (by kernel_rfl) (by kernel_rfl) rfl (fun w hs => run_fieldAddr (o' := 0) Tryz.underlying63 rfl sz3 rfl rfl rfl) hK ?_
              refine aw_take 8 rfl (by kernel_rfl) (by kernel_rfl) (by kernel_rfl) rfl (fun w hs => run_load Tryz.underlying3 rfl rfl (hs.cellAt 1 rfl rfl)) hK ?_
              refine aw_take 9 rfl (by kernel_rfl) (by kernel_rfl) (by kernel_rfl) rfl (fun w hs => run_fieldAddr (o' := 1) Tryz.underlying63 rfl sz36 rfl rfl rfl) hK ?_
              refine aw_take 10 rfl (by kernel_rfl) (by kernel_rfl) (by kernel_rfl) rfl (fun w hs => run_loadMid hs 1 (mfL x e o) rfl Tryz.underlying36 sz36 rfl rfl) hK ?_
              refine aw_ready [11] (by kernel_rfl) (by simp) ?_
              refine ⟨⟨_, rfl, ?_⟩, trivial⟩
              refine lw_call rfl en110 (cloneM_sl hs hm.cons.cons.cons.cons.cons (by have := mf_len h0; omega) (by have := mf_len h0; omega)) ?_
              clear hs
              rintro _ w ⟨s1, s2, rfl, hs⟩
              clear hK
              have hK := hs.tail.tail.drop 3
              refine lw_nil ⟨hK, ?_⟩
              refine @aw_take _ _ _ _ _ _ _ _ _ _ _ _ _ _ 12 _ rfl (by kernel_rfl) (by kernel_rfl) (by kernel_rfl) rfl (fun w hs => run_buildKM (k := k) (m := x) (e := s1) (o := s2) Tryz.underlying164 ze164 pl164 rfl rfl) hK ?_
              refine aw_ready [13] (by kernel_rfl) (by simp) ?_
              refine ⟨⟨_, rfl, ?_⟩, trivial⟩
              refine lw_mapUpdate (v := .agg _) hs 5 rfl intKind Tryz.underlying160 Tryz.underlying3 rfl rfl rfl ?_
              clear hs
              intro w hs
              try simp only [List.set_cons_succ, List.set_cons_zero] at hs
              clear hK
              have hK := hs.tail.tail.drop 3
              refine lw_nil ⟨hK, ?_⟩
              refine aw_done (by kernel_rfl) ?_
              clear hK
              refine cw_seq ?_
              refine cw_region ?_
              refine lw_val rfl (run_assign (v := .nilIface) rfl) ?_
              refine lw_nil ?_
              refine cw_ret ?_
              refine res1 (v := .nilIface) rfl rfl ?_
              rw [Vw.apply_new h0 (by omega) (by rw [hst]; exact h39) hV, if_neg (by have := keys_len hke; omega)]
              have h1 := Mem.closeItm (i := ⟨k, x⟩) (hs.arr [0, 1, 4, 5, 6] 7 (by decide))
              have h2 := Mem.famPut (R := itmC) (k := x.id) h1 2 rfl (fun _ h => False.elim h)
              have hok := Vw.apply_ok ho k x
              rw [Vw.apply_new h0 (by omega) (by rw [hst]; exact h39) hV, if_neg (by have := keys_len hke; omega)] at hok
              exact ⟨_, rfl, by rw [← errV_zero ad]; exact ApR.bare (Mem.closeV hok h2)⟩
  | some i =>
    obtain ⟨ei, oi, hes, hmi⟩ := hs.itmAt 2 rfl hV
    have hit := ho.item hV
    have hst : V.state x.id = i.st := by simp [Vw.state, hV]
    refine calls_cw Tryz.func29 rfl rfl ?_
    skip
    refine cw_seq ?_
    refine cw_region ?_
    refine lw_box (v := .agg _) hs rfl rfl ?_
    clear hs
    intro b3 w hs
    try simp only [List.set_cons_succ, List.set_cons_zero] at hs
    refine lw_val rfl (run_assign (v := .nilIface) rfl) ?_
    refine lw_nil ?_
    refine cw_seq ?_
    refine cw_seq ?_
    refine cw_region ?_
    refine lw_val rfl (run_fieldAddr (o' := 1) Tryz.underlying63 rfl sz36 rfl rfl rfl) ?_
    refine lw_val rfl (run_loadMid hs 0 (mfL x e o) rfl Tryz.underlying36 sz36 rfl rfl) ?_
    refine lw_call rfl en107 (validM_sl hE hs hm.cons.cons.cons.cons hob) ?_
    clear hs
    rintro _ w ⟨eb, rfl, hs⟩
    refine lw_val rfl (run_assign (v := flV ad _ _) rfl) ?_
    refine lw_nil ?_
    refine cw_seq ?_
    refine cw_region ?_
    refine lw_val rfl (run_move (v := flV ad _ _) rfl) ?_
    refine lw_val rfl (run_neF (mfF_ok x).place rfl) ?_
    refine lw_nil ?_
    refine cw_if rfl ?_ ?_
    · intro h12
      have g12 := ne_t h12
      refine cw_seq ?_
      refine cw_region ?_
      refine lw_val rfl (run_move (v := flV ad _ _) rfl) ?_
      refine lw_val rfl (run_assign (v := flV ad _ _) rfl) ?_
      refine lw_nil ?_
      refine cw_ret ?_
      refine res1 (v := flV ad _ _) rfl rfl ?_
      have h0 : (mfF x).1 ≠ 0 := by simpa using h12
      rw [Vw.apply_bad h0]
      exact ⟨_, rfl, eb, rfl, Mem.closeV1 ho (hs.arr [0, 2, 3, 4] 5 (by decide))⟩
    · intro h12
      have g12 := ne_f h12
      have h0 : (mfF x).1 = 0 := by simpa using h12
      replace hs := hs.tail
      refine cw_skip ?_
      refine cw_seq ?_
      refine cw_seq ?_
      refine cw_region ?_
      refine lw_val rfl (run_fieldAddr (o' := 0) Tryz.underlying63 rfl sz3 rfl rfl rfl) ?_
      refine lw_val rfl (run_load Tryz.underlying3 rfl rfl (hs.cellAt 0 rfl rfl)) ?_
      refine lw_val rfl (run_lss rfl rfl) ?_
      refine lw_val rfl (run_move (v := .bool _) rfl) ?_
      refine lw_split (t := _) (d := 17) rfl ?_ ?_
      · intro h16
        have g16 := of_decide_eq_true h16
        refine lw_off rfl rfl rfl h16 ?_
        refine lw_off rfl rfl rfl h16 ?_
        refine lw_off rfl rfl rfl h16 ?_
        refine lw_val rfl (run_pickT (v := .bool _) rfl h16 rfl) ?_
        refine lw_nil ?_
        refine cw_ift rfl rfl ?_
        refine cw_seq ?_
        refine cw_region ?_
        refine lw_val rfl (run_load Tryz.underlying30 rfl rfl (hE.cellW hs 112 (by decide) rfl)) ?_
        refine lw_val rfl (run_assign (v := errV ad _) rfl) ?_
        refine lw_nil ?_
        refine cw_ret ?_
        refine res1 (v := errV ad _) rfl rfl ?_
        rw [Vw.apply_kind h0 (by omega)]
        exact ⟨_, rfl, ApR.bare (Mem.closeV ho hs.tail)⟩
      · intro h16
        have g16 := of_decide_eq_false h16
        refine lw_on rfl rfl h16 ?_
        refine lw_val rfl (run_fieldAddr (o' := 0) Tryz.underlying63 rfl sz3 rfl rfl rfl) ?_
        refine lw_on rfl rfl h16 ?_
        refine lw_val rfl (run_load Tryz.underlying3 rfl rfl (hs.cellAt 0 rfl rfl)) ?_
        refine lw_on rfl rfl h16 ?_
        refine lw_val rfl (run_gtr rfl rfl) ?_
        refine lw_val rfl (run_pickF (v := .bool _) rfl h16 rfl) ?_
        refine lw_nil ?_
        refine cw_if rfl ?_ ?_
        · intro h20
          have g20 := of_decide_eq_true h20
          refine cw_seq ?_
          refine cw_region ?_
          refine lw_val rfl (run_load Tryz.underlying30 rfl rfl (hE.cellW hs 112 (by decide) rfl)) ?_
          refine lw_val rfl (run_assign (v := errV ad _) rfl) ?_
          refine lw_nil ?_
          refine cw_ret ?_
          refine res1 (v := errV ad _) rfl rfl ?_
          rw [Vw.apply_kind h0 (by omega)]
          exact ⟨_, rfl, ApR.bare (Mem.closeV ho hs.tail)⟩
        · intro h20
          have g20 := of_decide_eq_false h20
          refine cw_skip ?_
          refine cw_seq ?_
          refine cw_drawS mixes hs ?_
          intro w tr hK
          replace hs := tr _ hs
          clear tr
          refine aw_take 0 rfl (by kernel_rfl) (by kernel_rfl) (by kernel_rfl) rfl (fun w hs => run_move (v := .pointer (some _)) rfl) hK ?_
          refine aw_take 1 rfl (by kernel_rfl) (by kernel_rfl) (by kernel_rfl) rfl (fun w hs => run_nilCheckP rfl) hK ?_
          refine aw_take 2 rfl (by kernel_rfl) (by kernel_rfl) (by kernel_rfl) rfl (fun w hs => run_fieldAddr (o' := 0) Tryz.underlying162 rfl sz160 rfl rfl rfl) hK ?_
          refine aw_take 3 rfl (by kernel_rfl) (by kernel_rfl) (by kernel_rfl) rfl (fun w hs => run_load Tryz.underlying160 rfl rfl (hs.cellAt 1 rfl rfl)) hK ?_
          refine aw_take 4 rfl (by kernel_rfl) (by kernel_rfl) (by kernel_rfl) rfl (fun w hs => run_fieldAddr (o' := 1) Tryz.underlying63 rfl sz36 rfl rfl rfl) hK ?_
          refine aw_take 5 rfl (by kernel_rfl) (by kernel_rfl) (by kernel_rfl) rfl (fun w hs => run_fieldAddr Tryz.underlying36 rfl sz3 rfl rfl rfl) hK ?_
          refine aw_take 6 rfl (by kernel_rfl) (by kernel_rfl) (by kernel_rfl) rfl (fun w hs => run_load Tryz.underlying3 rfl rfl (hs.cellAt 0 rfl rfl)) hK ?_
          refine aw_take 7 rfl (by kernel_rfl) (by kernel_rfl) (by kernel_rfl) rfl (fun w hs => run_lookupOk (hs.mapAt 2 rfl) intKind Tryz.underlying160 Tryz.underlying3 ze164 rfl rfl (o := some (itmV i ei oi)) hes) hK ?_
          refine aw_take 8 rfl (by kernel_rfl) (by kernel_rfl) (by kernel_rfl) rfl (fun w hs => run_move (v := .tuple _) rfl) hK ?_
          refine aw_take 9 rfl (by kernel_rfl) (by kernel_rfl) (by kernel_rfl) rfl (fun w hs => run_extract (v := .agg _) rfl rfl) hK ?_
          refine aw_take 10 rfl (by kernel_rfl) (by kernel_rfl) (by kernel_rfl) rfl (fun w hs => run_extract (v := .bool _) rfl rfl) hK ?_
          refine aw_ready [11] (by kernel_rfl) (by simp) ?_
          refine ⟨⟨_, rfl, ?_⟩, trivial⟩
          refine lw_alloc hs rfl ze164 ?_
          clear hs
          intro b6 w hs
          try simp only [List.set_cons_succ, List.set_cons_zero] at hs
          clear hK
          have hK := hs.tail
          refine lw_nil ⟨hK, ?_⟩
          refine aw_ready [12] (by kernel_rfl) (by simp) ?_
          refine ⟨⟨_, rfl, ?_⟩, trivial⟩
          refine lw_storeRow hs 0 rfl rfl rfl sz164 rfl rfl ?_
          clear hs
          intro w hs
          try simp only [List.set_cons_succ, List.set_cons_zero] at hs
          clear hK
          have hK := hs.tail
          refine lw_nil ⟨hK, ?_⟩
          refine aw_take 13 rfl (by kernel_rfl) (by kernel_rfl) (by kernel_rfl) rfl (fun w hs => run_assign (v := .bool _) rfl) hK ?_
          refine aw_done (by kernel_rfl) ?_
          clear hK
          refine cw_seq ?_
          refine cw_block ?_
          refine cw_seq ?_
          refine cw_region ?_
          refine lw_val rfl (run_fieldAddr (o' := 0) Tryz.underlying164 rfl sz3 rfl rfl rfl) ?_
          refine lw_val rfl (run_load Tryz.underlying3 rfl rfl (hs.cellAt 0 rfl rfl)) ?_
          refine lw_val rfl (run_fieldAddr (o' := 0) Tryz.underlying63 rfl sz3 rfl rfl rfl) ?_
          refine lw_val rfl (run_load Tryz.underlying3 rfl rfl (hs.cellAt 1 rfl rfl)) ?_
          refine lw_call rfl en108 (nextE_sl hs i.st k) ?_
          clear hs
          rintro _ w ⟨rfl, hs⟩
          refine lw_val rfl (run_not rfl) ?_
          refine lw_val rfl (run_assign (v := .bool _) rfl) ?_
          refine lw_nil ?_
          refine cw_if rfl ?_ ?_
          · intro h39
            replace h39 := not_b h39
            refine cw_seq ?_
            refine cw_region ?_
            refine lw_val rfl (run_load Tryz.underlying30 rfl rfl (hE.cellW hs 113 (by decide) rfl)) ?_
            refine lw_val rfl (run_assign (v := errV ad _) rfl) ?_
            refine lw_nil ?_
            refine cw_ret ?_
            refine res1 (v := errV ad _) rfl rfl ?_
            rw [Vw.apply_state h0 (by omega) (by rw [hst]; exact h39)]
            exact ⟨_, rfl, ApR.bare (Mem.closeV ho hs.tail.tail)⟩
          · intro h39
            replace h39 := not_c h39
            refine cw_seq ?_
            refine cw_region ?_
            refine lw_val rfl (run_move (v := .bool _) rfl) ?_
            refine lw_val rfl (run_not rfl) ?_
            refine lw_val rfl (run_move (v := .bool _) rfl) ?_
            refine lw_off rfl rfl rfl (not_f (rfl)) ?_
            refine lw_off rfl rfl rfl (not_f (rfl)) ?_
            refine lw_off rfl rfl rfl (not_f (rfl)) ?_
            refine lw_off rfl rfl rfl (not_f (rfl)) ?_
            refine lw_off rfl rfl rfl (not_f (rfl)) ?_
            refine lw_off rfl rfl rfl (not_f (rfl)) ?_
            refine lw_val rfl (run_pickF (v := .bool _) rfl (not_f (rfl)) rfl) ?_
            refine lw_val rfl (run_assign (v := .bool _) rfl) ?_
            refine lw_nil ?_
            refine cw_iff rfl rfl ?_
            refine cw_seq ?_
            refine cw_region ?_
            refine lw_val rfl (run_move (v := .bool _) rfl) ?_
            refine lw_val rfl (run_move (v := .bool _) rfl) ?_
            refine lw_on rfl rfl (rfl) ?_
            refine lw_val rfl (run_fieldAddr (o' := 1) Tryz.underlying164 rfl sz36 rfl rfl rfl) ?_
            refine lw_on rfl rfl (rfl) ?_
            refine lw_val rfl (run_loadMid hs 0 (mfL i.m ei oi) rfl Tryz.underlying36 sz36 rfl rfl) ?_
            refine lw_on rfl rfl (rfl) ?_
            refine lw_val rfl (run_fieldAddr (o' := 1) Tryz.underlying63 rfl sz36 rfl rfl rfl) ?_
            refine lw_on rfl rfl (rfl) ?_
            refine lw_val rfl (run_loadMid hs 1 (mfL x e o) rfl Tryz.underlying36 sz36 rfl rfl) ?_
            refine lw_on rfl rfl (rfl) ?_
            refine lw_call rfl en109 (sameM_sl hs hmi.cons.cons hm.cons.cons.cons.cons.cons (by omega) (by omega)) ?_
            clear hs
            rintro _ w ⟨rfl, hs⟩
            refine lw_on rfl rfl (rfl) ?_
            refine lw_val rfl (run_not rfl) ?_
            refine lw_val rfl (run_pickT (v := .bool _) rfl (rfl) rfl) ?_
            refine lw_val rfl (run_assign (v := .bool _) rfl) ?_
            refine lw_nil ?_
            refine cw_if rfl ?_ ?_
            · intro h61
              replace h61 := not_b h61
              refine cw_seq ?_
              refine cw_region ?_
              refine lw_val rfl (run_load Tryz.underlying30 rfl rfl (hE.cellW hs 103 (by decide) rfl)) ?_
              refine lw_val rfl (run_assign (v := errV ad _) rfl) ?_
              refine lw_nil ?_
              refine cw_ret ?_
              refine res1 (v := errV ad _) rfl rfl ?_
              rw [Vw.apply_old h0 (by omega) (by rw [hst]; exact h39) hV, if_neg (of_decide_eq_false h61)]
              exact ⟨_, rfl, ApR.bare (Mem.closeV ho hs.tail.tail)⟩
            · intro h61
              replace h61 := not_c h61
              refine cw_skip ?_
              refine cw_seq ?_
              refine cw_drawS mixes (hs.drop 3) ?_
              intro w tr hK
              replace hs := tr _ hs
              clear tr
              refine aw_take 0 rfl (by kernel_rfl) (by kernel_rfl) (by kernel_rfl) rfl (fun w hs => run_move (v := .pointer (some _)) rfl) hK ?_
              refine aw_take 1 rfl (by kernel_rfl) (by kernel_rfl) (by kernel_rfl) rfl (fun w hs => run_nilCheckP rfl) hK ?_
              refine aw_take 2 rfl (by kernel_rfl) (by kernel_rfl) (by kernel_rfl) rfl (fun w hs => run_fieldAddr (o' := 0) Tryz.underlying162 rfl sz160 rfl rfl rfl) hK ?_
              refine aw_take 3 rfl (by kernel_rfl) (by kernel_rfl) (by kernel_rfl) rfl (fun w hs => run_load Tryz.underlying160 rfl rfl (hs.cellAt 2 rfl rfl)) hK ?_
              refine aw_take 4 rfl (by kernel_rfl) (by kernel_rfl) (by kernel_rfl) rfl (fun w hs => run_fieldAddr (o' := 1) Tryz.underlying63 rfl sz36 rfl rfl rfl) hK ?_
              refine aw_take 5 rfl (by kernel_rfl) (by kernel_rfl) (by kernel_rfl) rfl (fun w hs => run_fieldAddr Tryz.underlying36 rfl sz3 rfl rfl rfl) hK ?_
              refine aw_take 6 rfl (by kernel_rfl) (by kernel_rfl) (by kernel_rfl) rfl (fun w hs => run_load Tryz.underlying3 rfl rfl (hs.cellAt 1 rfl rfl)) hK ?_
              refine aw_take 7 rfl (by kernel_rfl) (by kernel_rfl) (by kernel_rfl) rfl (fun w hs => run_fieldAddr (o' := 0) Tryz.underlying63 rfl sz3 rfl rfl rfl) hK ?_
              refine aw_take 8 rfl (by kernel_rfl) (by kernel_rfl) (by kernel_rfl) rfl (fun w hs => run_load Tryz.underlying3 rfl rfl (hs.cellAt 1 rfl rfl)) hK ?_
              refine aw_take 9 rfl (by kernel_rfl) (by kernel_rfl) (by kernel_rfl) rfl (fun w hs => run_fieldAddr (o' := 1) Tryz.underlying63 rfl sz36 rfl rfl rfl) hK ?_
              refine aw_take 10 rfl (by kernel_rfl) (by kernel_rfl) (by kernel_rfl) rfl (fun w hs => run_loadMid hs 1 (mfL x e o) rfl Tryz.underlying36 sz36 rfl rfl) hK ?_
              refine aw_ready [11] (by kernel_rfl) (by simp) ?_
              refine ⟨⟨_, rfl, ?_⟩, trivial⟩
              refine lw_call rfl en110 (cloneM_sl hs hm.cons.cons.cons.cons.cons (by have := mf_len h0; omega) (by have := mf_len h0; omega)) ?_
              clear hs
              rintro _ w ⟨s1, s2, rfl, hs⟩
              clear hK
              have hK := hs.tail.tail.drop 3
              refine lw_nil ⟨hK, ?_⟩
              refine @aw_take _ _ _ _ _ _ _ _ _ _ _ _ _ _ 12 _ rfl (by kernel_rfl) (by kernel_rfl) (by kernel_rfl) rfl (fun w hs => run_buildKM (k := k) (m := x) (e := s1) (o := s2) Tryz.underlying164 ze164 pl164 rfl rfl) hK ?_
              refine aw_ready [13] (by kernel_rfl) (by simp) ?_
              refine ⟨⟨_, rfl, ?_⟩, trivial⟩
              refine lw_mapUpdate (v := .agg _) hs 5 rfl intKind Tryz.underlying160 Tryz.underlying3 rfl rfl rfl ?_
              clear hs
              intro w hs
              try simp only [List.set_cons_succ, List.set_cons_zero] at hs
              clear hK
              have hK := hs.tail.tail.drop 3
              refine lw_nil ⟨hK, ?_⟩
              refine aw_done (by kernel_rfl) ?_
              clear hK
              refine cw_seq ?_
              refine cw_region ?_
              refine lw_val rfl (run_assign (v := .nilIface) rfl) ?_
              refine lw_nil ?_
              refine cw_ret ?_
              refine res1 (v := .nilIface) rfl rfl ?_
              rw [Vw.apply_old h0 (by omega) (by rw [hst]; exact h39) hV, if_pos (of_decide_eq_true h61)]
              have h1 := Mem.closeItm (i := ⟨k, x⟩) (hs.arr [0, 1, 4, 5, 6] 7 (by decide))
              have h2 := Mem.famPut (R := itmC) (k := x.id) h1 2 rfl (fun _ h => False.elim h)
              have hok := Vw.apply_ok ho k x
              rw [Vw.apply_old h0 (by omega) (by rw [hst]; exact h39) hV, if_pos (of_decide_eq_true h61)] at hok
              exact ⟨_, rfl, by rw [← errV_zero ad]; exact ApR.bare (Mem.closeV hok h2)⟩
end Go.Proofs.YtkogkokmcmallaaGreatDoor
