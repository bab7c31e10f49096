/- The law ViewOther: an entry of another manifest is refused, and changes nothing. -/
import Derived.Test.YtkogkokmcmallaaDoorVE
import Derived.Test.YtkogkokmcmallaaDoorSv
namespace Go.Proofs.YtkogkokmcmallaaDoor
set_option linter.all false
open Go.RowKit
attribute [local irreducible] errV
variable {g w : World} {L M : List HP} {ad : Nat → Addr} {p : Nat} {V : Vw}

theorem mf_eps {x : Mf} (h : (mfF x).1 = 0) : 1 ≤ x.eps.length := by
  unfold mfF at h
  split at h
  · cases h
  · split at h
    · rename_i h1; exact absurd h h1
    · split at h
      · cases h
      · rename_i h3
        simp only [shapeBad, Bool.or_eq_true, decide_eq_true_eq, not_or] at h3
        omega
theorem one_sums {m : Mf} (hu : ∀ y ∈ m.obs, y.2.2 < 4294967296) : Vw.sums [(m.id, ⟨1, m⟩)] := fun x hx q hq => by
  simp only [List.mem_cons, List.not_mem_nil, or_false] at hx
  subst hx
  exact hu q hq
theorem set_ne {l : List Ob} {y z : Ob} (h : l[0]? = some y) (hne : y ≠ z) : l ≠ l.set 0 z := fun e => by
  have h1 : (l.set 0 z)[0]? = some z := by rw [List.getElem?_set_self]; exact (List.getElem?_eq_some_iff.1 h).1
  rw [← e, h] at h1
  exact hne (Option.some.inj h1)
set_option maxHeartbeats 8000000 in
set_option maxRecDepth 20000 in
theorem viewOther_sl (hA : ErrA ad g) (hs : Mem g w []) {m : Mf} {e o : SA} {kd wh : Int} (h1 : RowsR g 2 (.slice e.1 m.eps.length e.2) (m.eps.map prL)) (h2 : RowsR g 3 (.slice o.1 m.obs.length o.2) (m.obs.map obL)) (hu : ∀ y ∈ m.obs, y.2.2 < 4294967296) :
    Calls Tryd.prog 7 #[.agg (mfL m e o).toArray, .int .i64 kd, .int .i64 wh] w (Ret fun v w' => v = .bool true ∧ Mem g w' []) := by
  have hE : ErrV ad g := hA.view
  have hm : ∀ L, MfR g L m e o := fun L => ⟨h1.rd L, h2.rd L⟩
  refine calls_cw Tryd.func7 rfl rfl ?_
  skip
  refine cw_seq ?_
  refine cw_region ?_
  first | refine lw_box (v := .agg _) hs rfl rfl ?_
  clear hs
  intro b3 w hs
  try simp only [List.set_cons_succ, List.set_cons_zero] at hs
  first | refine lw_val rfl (run_assign (v := .bool _) rfl) ?_
  refine lw_nil ?_
  refine cw_seq ?_
  refine cw_region ?_
  refine lw_call rfl en19 (first16_sl hA hs) ?_
  clear hs
  rintro _ w ⟨rfl, hs⟩
  first | refine lw_val rfl (run_assign (v := .bool _) rfl) ?_
  refine lw_nil ?_
  refine cw_seq ?_
  refine cw_seq ?_
  refine cw_region ?_
  first | refine lw_val rfl (run_move (v := .bool _) rfl) ?_
  refine lw_val rfl (run_not rfl) ?_
  refine lw_nil ?_
  refine cw_iff rfl (not_f (rfl)) ?_
  refine cw_skip ?_
  refine cw_seq ?_
  refine cw_seq ?_
  refine cw_region ?_
  first | refine lw_val rfl (run_loadRow hs 0 rfl Tryd.underlying39 sz39 rfl) ?_ | refine lw_val rfl (run_loadRow hs 1 rfl Tryd.underlying39 sz39 rfl) ?_ | refine lw_val rfl (run_loadRow hs 2 rfl Tryd.underlying39 sz39 rfl) ?_ | refine lw_val rfl (run_loadRow hs 3 rfl Tryd.underlying39 sz39 rfl) ?_ | refine lw_val rfl (run_loadRow hs 4 rfl Tryd.underlying39 sz39 rfl) ?_ | refine lw_val rfl (run_loadRow hs 5 rfl Tryd.underlying39 sz39 rfl) ?_ | refine lw_val rfl (run_loadRow hs 6 rfl Tryd.underlying39 sz39 rfl) ?_ | refine lw_val rfl (run_loadRow hs 7 rfl Tryd.underlying39 sz39 rfl) ?_ | refine lw_val rfl (run_loadRow hs 8 rfl Tryd.underlying39 sz39 rfl) ?_ | refine lw_val rfl (run_loadRow hs 9 rfl Tryd.underlying39 sz39 rfl) ?_ | refine lw_val rfl (run_loadRow hs 10 rfl Tryd.underlying39 sz39 rfl) ?_ | refine lw_val rfl (run_loadRow hs 11 rfl Tryd.underlying39 sz39 rfl) ?_ | refine lw_val rfl (run_loadRow hs 12 rfl Tryd.underlying39 sz39 rfl) ?_ | refine lw_val rfl (run_loadRow hs 13 rfl Tryd.underlying39 sz39 rfl) ?_
  refine lw_call rfl en26 (wmani_sl hs (hm _)) ?_
  clear hs
  rintro _ w ⟨b, rfl, hb12, hs⟩
  refine lw_val rfl (run_not rfl) ?_
  first | refine lw_val rfl (run_move (v := .bool _) rfl) ?_
  refine lw_split (t := _) (d := 18) rfl ?_ ?_
  · intro h16
    replace h16 := not_b h16
    refine lw_off rfl rfl rfl (not_t h16) ?_
    refine lw_off rfl rfl rfl (not_t h16) ?_
    refine lw_off rfl rfl rfl (not_t h16) ?_
    refine lw_off rfl rfl rfl (not_t h16) ?_
    first | refine lw_val rfl (run_pickT (v := .bool _) rfl (not_t h16) rfl) ?_
    first | refine lw_val rfl (run_move (v := .bool _) rfl) ?_
    refine lw_off rfl rfl rfl rfl ?_
    refine lw_off rfl rfl rfl rfl ?_
    first | refine lw_val rfl (run_pickT (v := .bool _) rfl rfl rfl) ?_
    refine lw_nil ?_
    refine cw_ift rfl rfl ?_
    refine cw_seq ?_
    refine cw_region ?_
    first | refine lw_val rfl (run_move (v := .bool _) rfl) ?_
    first | refine lw_val rfl (run_assign (v := .bool _) rfl) ?_
    refine lw_nil ?_
    refine cw_ret ?_
    refine res1 (v := .bool _) rfl rfl ?_
    exact ⟨_, rfl, rfl, hs.nil⟩
  · intro h16
    replace h16 := not_c h16
    refine lw_on rfl rfl (not_f h16) ?_
    first | refine lw_val rfl (run_fieldAddr (o' := 4) Tryd.underlying39 rfl sz36 rfl rfl rfl) ?_ | refine lw_val rfl (run_fieldAddr Tryd.underlying39 rfl sz36 rfl rfl rfl) ?_
    refine lw_on rfl rfl (not_f h16) ?_
    first | refine lw_val rfl (run_load Tryd.underlying36 rfl rfl (hs.cellAt 0 rfl rfl)) ?_ | refine lw_val rfl (run_load Tryd.underlying36 rfl rfl (hs.cellAt 1 rfl rfl)) ?_ | refine lw_val rfl (run_load Tryd.underlying36 rfl rfl (hs.cellAt 2 rfl rfl)) ?_ | refine lw_val rfl (run_load Tryd.underlying36 rfl rfl (hs.cellAt 3 rfl rfl)) ?_ | refine lw_val rfl (run_load Tryd.underlying36 rfl rfl (hs.cellAt 4 rfl rfl)) ?_ | refine lw_val rfl (run_load Tryd.underlying36 rfl rfl (hs.cellAt 5 rfl rfl)) ?_ | refine lw_val rfl (run_load Tryd.underlying36 rfl rfl (hs.cellAt 6 rfl rfl)) ?_ | refine lw_val rfl (run_load Tryd.underlying36 rfl rfl (hs.cellAt 7 rfl rfl)) ?_ | refine lw_val rfl (run_load Tryd.underlying36 rfl rfl (hs.cellAt 8 rfl rfl)) ?_ | refine lw_val rfl (run_load Tryd.underlying36 rfl rfl (hs.cellAt 9 rfl rfl)) ?_ | refine lw_val rfl (run_load Tryd.underlying36 rfl rfl (hs.cellAt 10 rfl rfl)) ?_ | refine lw_val rfl (run_load Tryd.underlying36 rfl rfl (hs.cellAt 11 rfl rfl)) ?_ | refine lw_val rfl (run_load Tryd.underlying36 rfl rfl (hs.cellAt 12 rfl rfl)) ?_ | refine lw_val rfl (run_load Tryd.underlying36 rfl rfl (hs.cellAt 13 rfl rfl)) ?_
    refine lw_on rfl rfl (not_f h16) ?_
    refine lw_val rfl (run_lenS Tryd.underlying36 rfl) ?_
    refine lw_on rfl rfl (not_f h16) ?_
    refine lw_val rfl (run_gtr rfl rfl) ?_
    first | refine lw_val rfl (run_pickF (v := .bool _) rfl (not_f h16) rfl) ?_
    first | refine lw_val rfl (run_move (v := .bool _) rfl) ?_
    refine lw_split (t := _) (d := 24) rfl ?_ ?_
    · intro h22
      have g22 := of_decide_eq_true h22
      refine lw_off rfl rfl rfl h22 ?_
      refine lw_off rfl rfl rfl h22 ?_
      first | refine lw_val rfl (run_pickT (v := .bool _) rfl h22 rfl) ?_
      refine lw_nil ?_
      refine cw_ift rfl rfl ?_
      refine cw_seq ?_
      refine cw_region ?_
      first | refine lw_val rfl (run_move (v := .bool _) rfl) ?_
      first | refine lw_val rfl (run_assign (v := .bool _) rfl) ?_
      refine lw_nil ?_
      refine cw_ret ?_
      refine res1 (v := .bool _) rfl rfl ?_
      exact ⟨_, rfl, rfl, hs.nil⟩
    · intro h22
      have g22 := of_decide_eq_false h22
      refine lw_on rfl rfl h22 ?_
      first | refine lw_val rfl (run_move (v := .bool _) rfl) ?_
      refine lw_on rfl rfl h22 ?_
      refine lw_val rfl (run_not rfl) ?_
      first | refine lw_val rfl (run_pickF (v := .bool _) rfl h22 rfl) ?_
      refine lw_nil ?_
      refine cw_iff rfl (not_f (rfl)) ?_
      refine cw_skip ?_
      refine cw_seq ?_
      refine cw_region ?_
      refine lw_call rfl en20 (newv_sl hs) ?_
      clear hs
      rintro _ w ⟨p, rfl, hs⟩
      have hob : m.obs.length ≤ 12 := hb12 h16
      first | refine lw_val rfl (run_assign (v := .pointer (some _)) rfl) ?_ | refine lw_val rfl (run_assign (v := .pointer none) rfl) ?_ | refine lw_val rfl (run_assign (v := .pointer _) rfl) ?_
      refine lw_nil ?_
      refine cw_seq ?_
      refine cw_seq ?_
      refine cw_region ?_
      first | refine lw_val rfl (run_move (v := .pointer (some _)) rfl) ?_ | refine lw_val rfl (run_move (v := .pointer none) rfl) ?_ | refine lw_val rfl (run_move (v := .pointer _) rfl) ?_
      refine lw_val rfl (run_eqpn Tryd.underlying25 rfl rfl) ?_
      first | refine lw_val rfl (run_move (v := .bool _) rfl) ?_
      refine lw_on rfl rfl (rfl) ?_
      first | refine lw_val rfl (run_move (v := .pointer (some _)) rfl) ?_ | refine lw_val rfl (run_move (v := .pointer none) rfl) ?_ | refine lw_val rfl (run_move (v := .pointer _) rfl) ?_
      refine lw_on rfl rfl (rfl) ?_
      first | refine lw_val rfl (run_loadRow hs 0 rfl Tryd.underlying39 sz39 rfl) ?_ | refine lw_val rfl (run_loadRow hs 1 rfl Tryd.underlying39 sz39 rfl) ?_ | refine lw_val rfl (run_loadRow hs 2 rfl Tryd.underlying39 sz39 rfl) ?_ | refine lw_val rfl (run_loadRow hs 3 rfl Tryd.underlying39 sz39 rfl) ?_ | refine lw_val rfl (run_loadRow hs 4 rfl Tryd.underlying39 sz39 rfl) ?_ | refine lw_val rfl (run_loadRow hs 5 rfl Tryd.underlying39 sz39 rfl) ?_ | refine lw_val rfl (run_loadRow hs 6 rfl Tryd.underlying39 sz39 rfl) ?_ | refine lw_val rfl (run_loadRow hs 7 rfl Tryd.underlying39 sz39 rfl) ?_ | refine lw_val rfl (run_loadRow hs 8 rfl Tryd.underlying39 sz39 rfl) ?_ | refine lw_val rfl (run_loadRow hs 9 rfl Tryd.underlying39 sz39 rfl) ?_ | refine lw_val rfl (run_loadRow hs 10 rfl Tryd.underlying39 sz39 rfl) ?_ | refine lw_val rfl (run_loadRow hs 11 rfl Tryd.underlying39 sz39 rfl) ?_ | refine lw_val rfl (run_loadRow hs 12 rfl Tryd.underlying39 sz39 rfl) ?_ | refine lw_val rfl (run_loadRow hs 13 rfl Tryd.underlying39 sz39 rfl) ?_
      refine lw_on rfl rfl (rfl) ?_
      refine lw_val rfl (run_buildKM (k := 1) (m := m) (e := e) (o := o) Tryd.underlying52 ze52 pl52 rfl rfl) ?_
      refine lw_on rfl rfl (rfl) ?_
      refine lw_call rfl en23 (apply_sl hE hs 1 (hm _) (by omega)) ?_
      clear hs
      rintro _ w ⟨eb, rfl, hs⟩
      refine lw_on rfl rfl (rfl) ?_
      refine lw_val rfl (run_neF (by have := (Vw.apply_flt [] 1 m).2; rcases this with h | h; exact .inl h; right; intro h0; rw [h0] at h; simp at h) rfl) ?_
      first | refine lw_val rfl (run_pickF (v := .bool _) rfl (rfl) rfl) ?_
      refine lw_nil ?_
      refine cw_if rfl ?_ ?_
      · intro h37
        have g37 := ne_t h37
        refine cw_seq ?_
        refine cw_region ?_
        first | refine lw_val rfl (run_move (v := .pointer (some _)) rfl) ?_ | refine lw_val rfl (run_move (v := .pointer none) rfl) ?_ | refine lw_val rfl (run_move (v := .pointer _) rfl) ?_
        refine lw_val rfl (run_nepn Tryd.underlying25 rfl rfl) ?_
        first | refine lw_val rfl (run_assign (v := .bool _) rfl) ?_
        refine lw_nil ?_
        refine cw_ret ?_
        refine res1 (v := .bool _) rfl rfl ?_
        exact ⟨_, rfl, rfl, hs.nil⟩
      · intro h37
        have g37 := ne_f h37
        have hz0 : (Vw.apply [] 1 m).1.1 = 0 := by simpa using h37
        obtain ⟨hF, hap⟩ := other_first hz0
        rw [hap] at hs
        replace hs := hs.tail
        have hfi := mf_fine (x := m) (by rw [hF])
        obtain ⟨V1, hV1⟩ : ∃ V1 : Vw, V1 = [(m.id, ⟨1, m⟩)] := ⟨_, rfl⟩
        have hok : V1.ok := by have h9 := Vw.apply_ok Vw.ok_nil 1 m; rw [hap] at h9; rw [hV1]; exact h9
        have hf1 := hfi.obs
        refine cw_skip ?_
        refine cw_seq ?_
        refine cw_region ?_
        first | refine lw_val rfl (run_loadRow hs 0 rfl Tryd.underlying39 sz39 rfl) ?_ | refine lw_val rfl (run_loadRow hs 1 rfl Tryd.underlying39 sz39 rfl) ?_ | refine lw_val rfl (run_loadRow hs 2 rfl Tryd.underlying39 sz39 rfl) ?_ | refine lw_val rfl (run_loadRow hs 3 rfl Tryd.underlying39 sz39 rfl) ?_ | refine lw_val rfl (run_loadRow hs 4 rfl Tryd.underlying39 sz39 rfl) ?_ | refine lw_val rfl (run_loadRow hs 5 rfl Tryd.underlying39 sz39 rfl) ?_ | refine lw_val rfl (run_loadRow hs 6 rfl Tryd.underlying39 sz39 rfl) ?_ | refine lw_val rfl (run_loadRow hs 7 rfl Tryd.underlying39 sz39 rfl) ?_ | refine lw_val rfl (run_loadRow hs 8 rfl Tryd.underlying39 sz39 rfl) ?_ | refine lw_val rfl (run_loadRow hs 9 rfl Tryd.underlying39 sz39 rfl) ?_ | refine lw_val rfl (run_loadRow hs 10 rfl Tryd.underlying39 sz39 rfl) ?_ | refine lw_val rfl (run_loadRow hs 11 rfl Tryd.underlying39 sz39 rfl) ?_ | refine lw_val rfl (run_loadRow hs 12 rfl Tryd.underlying39 sz39 rfl) ?_ | refine lw_val rfl (run_loadRow hs 13 rfl Tryd.underlying39 sz39 rfl) ?_
        refine lw_call rfl en27 (rmani_sl hs (hm _) ⟨mf_eps (by rw [hF]), by have := hfi.eps; omega⟩ ⟨by omega, by omega⟩) ?_
        clear hs
        rintro _ w ⟨s1, s2, rfl, hs⟩
        rw [← hV1] at hs
        obtain ⟨bo, oo, sc, rfl, hrk⟩ := hs.obsAt (by omega)
        obtain ⟨y0, hy0⟩ : ∃ y, m.obs[0]? = some y := ⟨_, List.getElem?_eq_getElem (by omega)⟩
        have huy := hu y0 (List.mem_of_getElem? hy0)
        refine lw_alloc hs rfl ze39 ?_
        clear hs
        intro b9 w hs
        try simp only [List.set_cons_succ, List.set_cons_zero] at hs
        first | refine lw_storeRow hs 0 rfl rfl rfl sz39 rfl rfl ?_ | refine lw_storeRow hs 1 rfl rfl rfl sz39 rfl rfl ?_ | refine lw_storeRow hs 2 rfl rfl rfl sz39 rfl rfl ?_ | refine lw_storeRow hs 3 rfl rfl rfl sz39 rfl rfl ?_ | refine lw_storeRow hs 4 rfl rfl rfl sz39 rfl rfl ?_ | refine lw_storeRow hs 5 rfl rfl rfl sz39 rfl rfl ?_ | refine lw_storeRow hs 6 rfl rfl rfl sz39 rfl rfl ?_ | refine lw_storeRow hs 7 rfl rfl rfl sz39 rfl rfl ?_ | refine lw_storeRow hs 8 rfl rfl rfl sz39 rfl rfl ?_ | refine lw_storeRow hs 9 rfl rfl rfl sz39 rfl rfl ?_ | refine lw_storeRow hs 10 rfl rfl rfl sz39 rfl rfl ?_ | refine lw_storeRow hs 11 rfl rfl rfl sz39 rfl rfl ?_ | refine lw_storeRow hs 12 rfl rfl rfl sz39 rfl rfl ?_ | refine lw_storeRow hs 13 rfl rfl rfl sz39 rfl rfl ?_
        clear hs
        intro w hs
        try simp only [List.set_cons_succ, List.set_cons_zero] at hs
        refine lw_nil ?_
        refine cw_seq ?_
        refine cw_seq ?_
        refine cw_region ?_
        first | refine lw_val rfl (run_move (v := .int .i64 _) rfl) ?_
        refine lw_call rfl en14 (numberE_sl hs wh 3 (by decide)) ?_
        clear hs
        rintro _ w ⟨rfl, hs⟩
        refine lw_nil ?_
        refine cw_block ?_
        refine cw_seq ?_
        refine cw_region ?_
        refine lw_val rfl (run_eqi rfl rfl) ?_
        first | refine lw_val rfl (run_assign (v := .bool _) rfl) ?_
        refine lw_nil ?_
        refine cw_if rfl ?_ ?_
        · intro h56
          have g56 := of_decide_eq_true h56
          refine cw_region ?_
          first | refine lw_val rfl (run_fieldAddr (o' := 3) Tryd.underlying39 rfl sz2 rfl rfl rfl) ?_ | refine lw_val rfl (run_fieldAddr Tryd.underlying39 rfl sz2 rfl rfl rfl) ?_
          first | refine lw_val rfl (run_load Tryd.underlying2 rfl rfl (hs.cellAt 0 rfl rfl)) ?_ | refine lw_val rfl (run_load Tryd.underlying2 rfl rfl (hs.cellAt 1 rfl rfl)) ?_ | refine lw_val rfl (run_load Tryd.underlying2 rfl rfl (hs.cellAt 2 rfl rfl)) ?_ | refine lw_val rfl (run_load Tryd.underlying2 rfl rfl (hs.cellAt 3 rfl rfl)) ?_ | refine lw_val rfl (run_load Tryd.underlying2 rfl rfl (hs.cellAt 4 rfl rfl)) ?_ | refine lw_val rfl (run_load Tryd.underlying2 rfl rfl (hs.cellAt 5 rfl rfl)) ?_ | refine lw_val rfl (run_load Tryd.underlying2 rfl rfl (hs.cellAt 6 rfl rfl)) ?_ | refine lw_val rfl (run_load Tryd.underlying2 rfl rfl (hs.cellAt 7 rfl rfl)) ?_ | refine lw_val rfl (run_load Tryd.underlying2 rfl rfl (hs.cellAt 8 rfl rfl)) ?_ | refine lw_val rfl (run_load Tryd.underlying2 rfl rfl (hs.cellAt 9 rfl rfl)) ?_ | refine lw_val rfl (run_load Tryd.underlying2 rfl rfl (hs.cellAt 10 rfl rfl)) ?_ | refine lw_val rfl (run_load Tryd.underlying2 rfl rfl (hs.cellAt 11 rfl rfl)) ?_ | refine lw_val rfl (run_load Tryd.underlying2 rfl rfl (hs.cellAt 12 rfl rfl)) ?_ | refine lw_val rfl (run_load Tryd.underlying2 rfl rfl (hs.cellAt 13 rfl rfl)) ?_
          refine lw_val rfl (run_bits (v := .int .i64 (bits .xor .i64 m.time 1)) (by simp) rfl rfl rfl) ?_
          first | refine lw_val rfl (run_fieldAddr (o' := 3) Tryd.underlying39 rfl sz2 rfl rfl rfl) ?_ | refine lw_val rfl (run_fieldAddr Tryd.underlying39 rfl sz2 rfl rfl rfl) ?_
          first | refine lw_store (v := .int .i64 _) hs 0 rfl sz2 rfl rfl rfl rfl ?_ | refine lw_store (v := .int .i64 _) hs 1 rfl sz2 rfl rfl rfl rfl ?_ | refine lw_store (v := .int .i64 _) hs 2 rfl sz2 rfl rfl rfl rfl ?_ | refine lw_store (v := .int .i64 _) hs 3 rfl sz2 rfl rfl rfl rfl ?_ | refine lw_store (v := .int .i64 _) hs 4 rfl sz2 rfl rfl rfl rfl ?_ | refine lw_store (v := .int .i64 _) hs 5 rfl sz2 rfl rfl rfl rfl ?_ | refine lw_store (v := .int .i64 _) hs 6 rfl sz2 rfl rfl rfl rfl ?_ | refine lw_store (v := .int .i64 _) hs 7 rfl sz2 rfl rfl rfl rfl ?_ | refine lw_store (v := .int .i64 _) hs 8 rfl sz2 rfl rfl rfl rfl ?_ | refine lw_store (v := .int .i64 _) hs 9 rfl sz2 rfl rfl rfl rfl ?_ | refine lw_store (v := .int .i64 _) hs 10 rfl sz2 rfl rfl rfl rfl ?_ | refine lw_store (v := .int .i64 _) hs 11 rfl sz2 rfl rfl rfl rfl ?_ | refine lw_store (v := .int .i64 _) hs 12 rfl sz2 rfl rfl rfl rfl ?_ | refine lw_store (v := .int .i64 _) hs 13 rfl sz2 rfl rfl rfl rfl ?_
          clear hs
          intro w hs
          try simp only [List.set_cons_succ, List.set_cons_zero] at hs
          refine lw_nil ?_
          refine cw_seq ?_
          obtain ⟨m2, hm2⟩ : ∃ m2 : Mf, m2 = { m with time := bits .xor .i64 m.time 1 } := ⟨_, rfl⟩
          have hne : m ≠ m2 := by rw [hm2]; exact fun e => xor1_ne m.time (congrArg Mf.time e).symm
          have hid2 : m2.id = m.id := by rw [hm2]
          have hol2 : m2.obs.length ≤ 1000000 := by rw [hm2]; simp; omega
          replace hs : Mem g w [cells b9 (mfL m2 s1 (some ⟨bo, oo, none⟩, sc)) 39, rowK 2 (.slice s1.1 m2.eps.length s1.2) (m2.eps.map prL), rowK 3 (.slice (some ⟨bo, oo, none⟩) m2.obs.length sc) (m2.obs.map obL), ViewC p V1, cells b3 (mfL m e o) 39] := by rw [hm2]; exact hs
          obtain ⟨kv, hkv⟩ : ∃ kv, kv = (kd % ((2 : Nat) : Int)).toNat := ⟨_, rfl⟩
          have hkv2 : kv < 2 := by have := Int.emod_lt_of_pos kd (show (0 : Int) < (2 : Nat) by decide); have := Int.emod_nonneg kd (show ((2 : Nat) : Int) ≠ 0 by decide); omega
          have hk23 : (kv : Int) + 2 = 2 ∨ (kv : Int) + 2 = 3 := by omega
          obtain ⟨f, hf0, hfp, hbad⟩ := other_bad hk23 hid2 hne
          have hgood := other_good (m := m) hk23 hF
          rw [← hV1] at hbad hgood
          have hst1 : V1.state m.id = 1 := by rw [hV1]; simp [Vw.state, aget]
          have hvl : V1.length ≤ 100 := by rw [hV1]; simp
          have hsm : V1.sums := by rw [hV1]; exact one_sums hu
          refine cw_region ?_
          first | refine lw_val rfl (run_move (v := .pointer (some _)) rfl) ?_ | refine lw_val rfl (run_move (v := .pointer none) rfl) ?_ | refine lw_val rfl (run_move (v := .pointer _) rfl) ?_
          refine lw_call rfl en28 (viewB_sl hE (L := [_, _, _, _]) (hs.arr [3, 0, 1, 2, 4] 5 (by decide)) hvl hsm) ?_
          clear hs
          rintro _ w ⟨a74, c74, rfl, hs⟩
          replace hs := hs.arr [0, 2, 3, 4, 1, 5] 6 (by decide)
          first | refine lw_val rfl (run_assign (v := .slice _ _ _) rfl) ?_
          refine lw_nil ?_
          refine cw_seq ?_
          refine cw_drawS mixes hs ?_
          intro w tr hK
          replace hs := tr _ hs
          clear tr
          first | refine aw_take 0 rfl (by kernel_rfl) (by kernel_rfl) (by kernel_rfl) rfl (fun w hs => run_move (v := .pointer (some _)) rfl) hK ?_ | refine aw_take 0 rfl (by kernel_rfl) (by kernel_rfl) (by kernel_rfl) rfl (fun w hs => run_move (v := .pointer none) rfl) hK ?_ | refine aw_take 0 rfl (by kernel_rfl) (by kernel_rfl) (by kernel_rfl) rfl (fun w hs => run_move (v := .pointer _) rfl) hK ?_
          first | refine aw_take 1 rfl (by kernel_rfl) (by kernel_rfl) (by kernel_rfl) rfl (fun w hs => run_move (v := .int .i64 _) rfl) hK ?_
          first | refine aw_take 4 rfl (by kernel_rfl) (by kernel_rfl) (by kernel_rfl) rfl (fun w hs => run_loadRow hs 0 rfl Tryd.underlying39 sz39 rfl) hK ?_ | refine aw_take 4 rfl (by kernel_rfl) (by kernel_rfl) (by kernel_rfl) rfl (fun w hs => run_loadRow hs 1 rfl Tryd.underlying39 sz39 rfl) hK ?_ | refine aw_take 4 rfl (by kernel_rfl) (by kernel_rfl) (by kernel_rfl) rfl (fun w hs => run_loadRow hs 2 rfl Tryd.underlying39 sz39 rfl) hK ?_ | refine aw_take 4 rfl (by kernel_rfl) (by kernel_rfl) (by kernel_rfl) rfl (fun w hs => run_loadRow hs 3 rfl Tryd.underlying39 sz39 rfl) hK ?_ | refine aw_take 4 rfl (by kernel_rfl) (by kernel_rfl) (by kernel_rfl) rfl (fun w hs => run_loadRow hs 4 rfl Tryd.underlying39 sz39 rfl) hK ?_ | refine aw_take 4 rfl (by kernel_rfl) (by kernel_rfl) (by kernel_rfl) rfl (fun w hs => run_loadRow hs 5 rfl Tryd.underlying39 sz39 rfl) hK ?_ | refine aw_take 4 rfl (by kernel_rfl) (by kernel_rfl) (by kernel_rfl) rfl (fun w hs => run_loadRow hs 6 rfl Tryd.underlying39 sz39 rfl) hK ?_ | refine aw_take 4 rfl (by kernel_rfl) (by kernel_rfl) (by kernel_rfl) rfl (fun w hs => run_loadRow hs 7 rfl Tryd.underlying39 sz39 rfl) hK ?_ | refine aw_take 4 rfl (by kernel_rfl) (by kernel_rfl) (by kernel_rfl) rfl (fun w hs => run_loadRow hs 8 rfl Tryd.underlying39 sz39 rfl) hK ?_ | refine aw_take 4 rfl (by kernel_rfl) (by kernel_rfl) (by kernel_rfl) rfl (fun w hs => run_loadRow hs 9 rfl Tryd.underlying39 sz39 rfl) hK ?_ | refine aw_take 4 rfl (by kernel_rfl) (by kernel_rfl) (by kernel_rfl) rfl (fun w hs => run_loadRow hs 10 rfl Tryd.underlying39 sz39 rfl) hK ?_ | refine aw_take 4 rfl (by kernel_rfl) (by kernel_rfl) (by kernel_rfl) rfl (fun w hs => run_loadRow hs 11 rfl Tryd.underlying39 sz39 rfl) hK ?_ | refine aw_take 4 rfl (by kernel_rfl) (by kernel_rfl) (by kernel_rfl) rfl (fun w hs => run_loadRow hs 12 rfl Tryd.underlying39 sz39 rfl) hK ?_ | refine aw_take 4 rfl (by kernel_rfl) (by kernel_rfl) (by kernel_rfl) rfl (fun w hs => run_loadRow hs 13 rfl Tryd.underlying39 sz39 rfl) hK ?_
          refine aw_ready [2] (by kernel_rfl) (by simp) ?_
          refine ⟨⟨_, rfl, ?_⟩, trivial⟩
          refine lw_call rfl en14 (numberE_sl hs kd 2 (by decide)) ?_
          clear hs
          rintro _ w ⟨rfl, hs⟩
          rw [← hkv]
          clear hK
          have hK := hs
          refine lw_nil ⟨hK, ?_⟩
          refine aw_take 3 rfl (by kernel_rfl) (by kernel_rfl) (by kernel_rfl) rfl (fun w hs => run_add64 rfl rfl (c := (kv : Int) + 2) rfl (inI (by omega) (by omega))) hK ?_
          refine @aw_take _ _ _ _ _ _ _ _ _ _ _ _ _ _ 5 _ rfl (by kernel_rfl) (by kernel_rfl) (by kernel_rfl) rfl (fun w hs => run_buildKM (k := (kv : Int) + 2) (m := m2) (e := s1) (o := (some ⟨bo, oo, none⟩, sc)) Tryd.underlying52 ze52 pl52 rfl rfl) hK ?_
          refine aw_ready [6] (by kernel_rfl) (by simp) ?_
          refine ⟨⟨_, rfl, ?_⟩, trivial⟩
          refine lw_call rfl en23 (apply_sl hE (L := [_, _, _, _, _]) (hs.arr [4, 0, 1, 2, 3, 5] 6 (by decide)) ((kv : Int) + 2) (MfR.own 2 3 rfl rfl) hol2) ?_
          clear hs
          rintro _ w ⟨eb2, rfl, hs⟩
          rw [hbad] at hs ⊢
          replace hs := hs.tail.arr [1, 2, 3, 4, 0, 5] 6 (by decide)
          clear hK
          have hK := hs
          refine lw_nil ⟨hK, ?_⟩
          first | refine aw_take 7 rfl (by kernel_rfl) (by kernel_rfl) (by kernel_rfl) rfl (fun w hs => run_assign (v := errV ad _) rfl) hK ?_ | refine aw_take 7 rfl (by kernel_rfl) (by kernel_rfl) (by kernel_rfl) rfl (fun w hs => run_assign (v := .nilIface) rfl) hK ?_ | refine aw_take 7 rfl (by kernel_rfl) (by kernel_rfl) (by kernel_rfl) rfl (fun w hs => run_assign (v := eV ad _ _) rfl) hK ?_ | refine aw_take 7 rfl (by kernel_rfl) (by kernel_rfl) (by kernel_rfl) rfl (fun w hs => run_assign (v := .iface _ (.pointer (some _))) rfl) hK ?_ | refine aw_take 7 rfl (by kernel_rfl) (by kernel_rfl) (by kernel_rfl) rfl (fun w hs => run_assign (v := flV ad _ _) rfl) hK ?_
          refine aw_done (by kernel_rfl) ?_
          clear hK
          refine cw_seq ?_
          refine cw_drawS mixes (hs.drop 4) ?_
          intro w tr hK
          replace hs := tr _ hs
          clear tr
          first | refine aw_take 0 rfl (by kernel_rfl) (by kernel_rfl) (by kernel_rfl) rfl (fun w hs => run_move (v := errV ad _) rfl) hK ?_ | refine aw_take 0 rfl (by kernel_rfl) (by kernel_rfl) (by kernel_rfl) rfl (fun w hs => run_move (v := .nilIface) rfl) hK ?_ | refine aw_take 0 rfl (by kernel_rfl) (by kernel_rfl) (by kernel_rfl) rfl (fun w hs => run_move (v := eV ad _ _) rfl) hK ?_ | refine aw_take 0 rfl (by kernel_rfl) (by kernel_rfl) (by kernel_rfl) rfl (fun w hs => run_move (v := .iface _ (.pointer (some _))) rfl) hK ?_ | refine aw_take 0 rfl (by kernel_rfl) (by kernel_rfl) (by kernel_rfl) rfl (fun w hs => run_move (v := flV ad _ _) rfl) hK ?_
          refine @aw_take _ _ _ _ _ _ _ _ _ _ _ _ _ _ 1 _ rfl (by kernel_rfl) (by kernel_rfl) (by kernel_rfl) rfl (fun w hs => run_neF hfp rfl) hK ?_
          first | refine aw_take 2 rfl (by kernel_rfl) (by kernel_rfl) (by kernel_rfl) rfl (fun w hs => run_move (v := .bool _) rfl) hK ?_
          first | refine aw_takeOn 3 rfl (by kernel_rfl) (by kernel_rfl) (by kernel_rfl) rfl rfl rfl (by rw [decide_eq_false hf0]; rfl) (fun w hs => run_move (v := .pointer (some _)) rfl) hK ?_ | refine aw_takeOn 3 rfl (by kernel_rfl) (by kernel_rfl) (by kernel_rfl) rfl rfl rfl (by rw [decide_eq_false hf0]; rfl) (fun w hs => run_move (v := .pointer none) rfl) hK ?_ | refine aw_takeOn 3 rfl (by kernel_rfl) (by kernel_rfl) (by kernel_rfl) rfl rfl rfl (by rw [decide_eq_false hf0]; rfl) (fun w hs => run_move (v := .pointer _) rfl) hK ?_
          first | refine aw_takeOn 5 rfl (by kernel_rfl) (by kernel_rfl) (by kernel_rfl) rfl rfl rfl (by rw [decide_eq_false hf0]; rfl) (fun w hs => run_move (v := .slice _ _ _) rfl) hK ?_
          refine aw_ready [4] (by kernel_rfl) (by simp) ?_
          refine ⟨⟨_, rfl, ?_⟩, trivial⟩
          refine lw_on rfl rfl (by rw [decide_eq_false hf0]; rfl) ?_
          refine lw_call rfl en28 (viewB_sl hE (L := [_, _, _, _, _]) (hs.arr [4, 0, 1, 2, 3, 5] 6 (by decide)) hvl hsm) ?_
          clear hs
          rintro _ w ⟨a86, c86, rfl, hs⟩
          replace hs := hs.arr [0, 2, 3, 4, 5, 1, 6] 7 (by decide)
          clear hK
          have hK := hs.tail.drop 4
          refine lw_nil ⟨hK, ?_⟩
          refine aw_ready [6] (by kernel_rfl) (by simp) ?_
          refine ⟨⟨_, rfl, ?_⟩, trivial⟩
          refine lw_on rfl rfl (by rw [decide_eq_false hf0]; rfl) ?_
          refine lw_call rfl en29 (sameB_sl hs (la := vwB V1) (lb := vwB V1) (Rd.own 0 rfl) (Rd.own 1 rfl) rfl rfl (by rw [vwB, sealL_len]; have := vwBody_len hok hvl; omega)) ?_
          clear hs
          rintro _ w ⟨rfl, hs⟩
          clear hK
          have hK := hs.tail.drop 4
          refine lw_nil ⟨hK, ?_⟩
          first | refine aw_take 7 rfl (by kernel_rfl) (by kernel_rfl) (by kernel_rfl) rfl (fun w hs => run_pickT (v := .bool _) rfl (by rw [decide_eq_false hf0]; rfl) rfl) hK ?_
          first | refine aw_take 8 rfl (by kernel_rfl) (by kernel_rfl) (by kernel_rfl) rfl (fun w hs => run_move (v := .bool _) rfl) hK ?_
          first | refine aw_takeOn 9 rfl (by kernel_rfl) (by kernel_rfl) (by kernel_rfl) rfl rfl rfl (decide_eq_true rfl) (fun w hs => run_move (v := .pointer (some _)) rfl) hK ?_ | refine aw_takeOn 9 rfl (by kernel_rfl) (by kernel_rfl) (by kernel_rfl) rfl rfl rfl (decide_eq_true rfl) (fun w hs => run_move (v := .pointer none) rfl) hK ?_ | refine aw_takeOn 9 rfl (by kernel_rfl) (by kernel_rfl) (by kernel_rfl) rfl rfl rfl (decide_eq_true rfl) (fun w hs => run_move (v := .pointer _) rfl) hK ?_
          first | refine aw_takeOn 10 rfl (by kernel_rfl) (by kernel_rfl) (by kernel_rfl) rfl rfl rfl (decide_eq_true rfl) (fun w hs => run_fieldAddr (o' := 0) Tryd.underlying39 rfl sz3 rfl rfl rfl) hK ?_ | refine aw_takeOn 10 rfl (by kernel_rfl) (by kernel_rfl) (by kernel_rfl) rfl rfl rfl (decide_eq_true rfl) (fun w hs => run_fieldAddr Tryd.underlying39 rfl sz3 rfl rfl rfl) hK ?_
          first | refine aw_takeOn 11 rfl (by kernel_rfl) (by kernel_rfl) (by kernel_rfl) rfl rfl rfl (decide_eq_true rfl) (fun w hs => run_load Tryd.underlying3 rfl rfl (hs.cellAt 0 rfl rfl)) hK ?_ | refine aw_takeOn 11 rfl (by kernel_rfl) (by kernel_rfl) (by kernel_rfl) rfl rfl rfl (decide_eq_true rfl) (fun w hs => run_load Tryd.underlying3 rfl rfl (hs.cellAt 1 rfl rfl)) hK ?_ | refine aw_takeOn 11 rfl (by kernel_rfl) (by kernel_rfl) (by kernel_rfl) rfl rfl rfl (decide_eq_true rfl) (fun w hs => run_load Tryd.underlying3 rfl rfl (hs.cellAt 2 rfl rfl)) hK ?_ | refine aw_takeOn 11 rfl (by kernel_rfl) (by kernel_rfl) (by kernel_rfl) rfl rfl rfl (decide_eq_true rfl) (fun w hs => run_load Tryd.underlying3 rfl rfl (hs.cellAt 3 rfl rfl)) hK ?_ | refine aw_takeOn 11 rfl (by kernel_rfl) (by kernel_rfl) (by kernel_rfl) rfl rfl rfl (decide_eq_true rfl) (fun w hs => run_load Tryd.underlying3 rfl rfl (hs.cellAt 4 rfl rfl)) hK ?_ | refine aw_takeOn 11 rfl (by kernel_rfl) (by kernel_rfl) (by kernel_rfl) rfl rfl rfl (decide_eq_true rfl) (fun w hs => run_load Tryd.underlying3 rfl rfl (hs.cellAt 5 rfl rfl)) hK ?_ | refine aw_takeOn 11 rfl (by kernel_rfl) (by kernel_rfl) (by kernel_rfl) rfl rfl rfl (decide_eq_true rfl) (fun w hs => run_load Tryd.underlying3 rfl rfl (hs.cellAt 6 rfl rfl)) hK ?_ | refine aw_takeOn 11 rfl (by kernel_rfl) (by kernel_rfl) (by kernel_rfl) rfl rfl rfl (decide_eq_true rfl) (fun w hs => run_load Tryd.underlying3 rfl rfl (hs.cellAt 7 rfl rfl)) hK ?_ | refine aw_takeOn 11 rfl (by kernel_rfl) (by kernel_rfl) (by kernel_rfl) rfl rfl rfl (decide_eq_true rfl) (fun w hs => run_load Tryd.underlying3 rfl rfl (hs.cellAt 8 rfl rfl)) hK ?_ | refine aw_takeOn 11 rfl (by kernel_rfl) (by kernel_rfl) (by kernel_rfl) rfl rfl rfl (decide_eq_true rfl) (fun w hs => run_load Tryd.underlying3 rfl rfl (hs.cellAt 9 rfl rfl)) hK ?_ | refine aw_takeOn 11 rfl (by kernel_rfl) (by kernel_rfl) (by kernel_rfl) rfl rfl rfl (decide_eq_true rfl) (fun w hs => run_load Tryd.underlying3 rfl rfl (hs.cellAt 10 rfl rfl)) hK ?_ | refine aw_takeOn 11 rfl (by kernel_rfl) (by kernel_rfl) (by kernel_rfl) rfl rfl rfl (decide_eq_true rfl) (fun w hs => run_load Tryd.underlying3 rfl rfl (hs.cellAt 11 rfl rfl)) hK ?_ | refine aw_takeOn 11 rfl (by kernel_rfl) (by kernel_rfl) (by kernel_rfl) rfl rfl rfl (decide_eq_true rfl) (fun w hs => run_load Tryd.underlying3 rfl rfl (hs.cellAt 12 rfl rfl)) hK ?_ | refine aw_takeOn 11 rfl (by kernel_rfl) (by kernel_rfl) (by kernel_rfl) rfl rfl rfl (decide_eq_true rfl) (fun w hs => run_load Tryd.underlying3 rfl rfl (hs.cellAt 13 rfl rfl)) hK ?_
          refine aw_ready [12] (by kernel_rfl) (by simp) ?_
          refine ⟨⟨_, rfl, ?_⟩, trivial⟩
          refine lw_on rfl rfl (decide_eq_true rfl) ?_
          refine lw_call rfl en16 (state_sl (L := [_, _, _, _, _, _]) (hs.arr [5, 0, 1, 2, 3, 4, 6] 7 (by decide)) m.id) ?_
          clear hs
          rintro _ w ⟨rfl, hs⟩
          replace hs := hs.arr [1, 2, 3, 4, 5, 0, 6] 7 (by decide)
          clear hK
          have hK := hs.tail.drop 4
          refine lw_nil ⟨hK, ?_⟩
          refine aw_takeOn 13 rfl (by kernel_rfl) (by kernel_rfl) (by kernel_rfl) rfl rfl rfl (decide_eq_true rfl) (fun w hs => run_eqi rfl rfl) hK ?_
          first | refine aw_take 14 rfl (by kernel_rfl) (by kernel_rfl) (by kernel_rfl) rfl (fun w hs => run_pickT (v := .bool _) rfl (decide_eq_true rfl) rfl) hK ?_
          first | refine aw_take 15 rfl (by kernel_rfl) (by kernel_rfl) (by kernel_rfl) rfl (fun w hs => run_move (v := .bool _) rfl) hK ?_
          first | refine aw_takeOn 16 rfl (by kernel_rfl) (by kernel_rfl) (by kernel_rfl) rfl rfl rfl (decide_eq_true hst1) (fun w hs => run_move (v := .pointer (some _)) rfl) hK ?_ | refine aw_takeOn 16 rfl (by kernel_rfl) (by kernel_rfl) (by kernel_rfl) rfl rfl rfl (decide_eq_true hst1) (fun w hs => run_move (v := .pointer none) rfl) hK ?_ | refine aw_takeOn 16 rfl (by kernel_rfl) (by kernel_rfl) (by kernel_rfl) rfl rfl rfl (decide_eq_true hst1) (fun w hs => run_move (v := .pointer _) rfl) hK ?_
          first | refine aw_takeOn 17 rfl (by kernel_rfl) (by kernel_rfl) (by kernel_rfl) rfl rfl rfl (decide_eq_true hst1) (fun w hs => run_move (v := .int .i64 _) rfl) hK ?_
          first | refine aw_takeOn 20 rfl (by kernel_rfl) (by kernel_rfl) (by kernel_rfl) rfl rfl rfl (decide_eq_true hst1) (fun w hs => run_loadRow hs 0 rfl Tryd.underlying39 sz39 rfl) hK ?_ | refine aw_takeOn 20 rfl (by kernel_rfl) (by kernel_rfl) (by kernel_rfl) rfl rfl rfl (decide_eq_true hst1) (fun w hs => run_loadRow hs 1 rfl Tryd.underlying39 sz39 rfl) hK ?_ | refine aw_takeOn 20 rfl (by kernel_rfl) (by kernel_rfl) (by kernel_rfl) rfl rfl rfl (decide_eq_true hst1) (fun w hs => run_loadRow hs 2 rfl Tryd.underlying39 sz39 rfl) hK ?_ | refine aw_takeOn 20 rfl (by kernel_rfl) (by kernel_rfl) (by kernel_rfl) rfl rfl rfl (decide_eq_true hst1) (fun w hs => run_loadRow hs 3 rfl Tryd.underlying39 sz39 rfl) hK ?_ | refine aw_takeOn 20 rfl (by kernel_rfl) (by kernel_rfl) (by kernel_rfl) rfl rfl rfl (decide_eq_true hst1) (fun w hs => run_loadRow hs 4 rfl Tryd.underlying39 sz39 rfl) hK ?_ | refine aw_takeOn 20 rfl (by kernel_rfl) (by kernel_rfl) (by kernel_rfl) rfl rfl rfl (decide_eq_true hst1) (fun w hs => run_loadRow hs 5 rfl Tryd.underlying39 sz39 rfl) hK ?_ | refine aw_takeOn 20 rfl (by kernel_rfl) (by kernel_rfl) (by kernel_rfl) rfl rfl rfl (decide_eq_true hst1) (fun w hs => run_loadRow hs 6 rfl Tryd.underlying39 sz39 rfl) hK ?_ | refine aw_takeOn 20 rfl (by kernel_rfl) (by kernel_rfl) (by kernel_rfl) rfl rfl rfl (decide_eq_true hst1) (fun w hs => run_loadRow hs 7 rfl Tryd.underlying39 sz39 rfl) hK ?_ | refine aw_takeOn 20 rfl (by kernel_rfl) (by kernel_rfl) (by kernel_rfl) rfl rfl rfl (decide_eq_true hst1) (fun w hs => run_loadRow hs 8 rfl Tryd.underlying39 sz39 rfl) hK ?_ | refine aw_takeOn 20 rfl (by kernel_rfl) (by kernel_rfl) (by kernel_rfl) rfl rfl rfl (decide_eq_true hst1) (fun w hs => run_loadRow hs 9 rfl Tryd.underlying39 sz39 rfl) hK ?_ | refine aw_takeOn 20 rfl (by kernel_rfl) (by kernel_rfl) (by kernel_rfl) rfl rfl rfl (decide_eq_true hst1) (fun w hs => run_loadRow hs 10 rfl Tryd.underlying39 sz39 rfl) hK ?_ | refine aw_takeOn 20 rfl (by kernel_rfl) (by kernel_rfl) (by kernel_rfl) rfl rfl rfl (decide_eq_true hst1) (fun w hs => run_loadRow hs 11 rfl Tryd.underlying39 sz39 rfl) hK ?_ | refine aw_takeOn 20 rfl (by kernel_rfl) (by kernel_rfl) (by kernel_rfl) rfl rfl rfl (decide_eq_true hst1) (fun w hs => run_loadRow hs 12 rfl Tryd.underlying39 sz39 rfl) hK ?_ | refine aw_takeOn 20 rfl (by kernel_rfl) (by kernel_rfl) (by kernel_rfl) rfl rfl rfl (decide_eq_true hst1) (fun w hs => run_loadRow hs 13 rfl Tryd.underlying39 sz39 rfl) hK ?_
          refine aw_ready [18] (by kernel_rfl) (by simp) ?_
          refine ⟨⟨_, rfl, ?_⟩, trivial⟩
          refine lw_on rfl rfl (decide_eq_true hst1) ?_
          refine lw_call rfl en14 (numberE_sl hs kd 2 (by decide)) ?_
          clear hs
          rintro _ w ⟨rfl, hs⟩
          rw [← hkv]
          clear hK
          have hK := hs.tail.drop 4
          refine lw_nil ⟨hK, ?_⟩
          refine aw_takeOn 19 rfl (by kernel_rfl) (by kernel_rfl) (by kernel_rfl) rfl rfl rfl (decide_eq_true hst1) (fun w hs => run_add64 rfl rfl (c := (kv : Int) + 2) rfl (inI (by omega) (by omega))) hK ?_
          refine @aw_takeOn _ _ _ _ _ _ _ _ _ _ _ _ _ _ 21 _ _ _ _ _ rfl (by kernel_rfl) (by kernel_rfl) (by kernel_rfl) rfl rfl rfl (decide_eq_true hst1) (fun w hs => run_buildKM (k := (kv : Int) + 2) (m := m) (e := e) (o := o) Tryd.underlying52 ze52 pl52 rfl rfl) hK ?_
          refine aw_ready [22] (by kernel_rfl) (by simp) ?_
          refine ⟨⟨_, rfl, ?_⟩, trivial⟩
          refine lw_on rfl rfl (decide_eq_true hst1) ?_
          refine lw_call rfl en23 (apply_sl hE (L := [_, _, _, _, _, _]) (hs.arr [5, 0, 1, 2, 3, 4, 6] 7 (by decide)) ((kv : Int) + 2) (hm _) (by omega)) ?_
          clear hs
          rintro _ w ⟨eb3, rfl, hs⟩
          rw [hgood] at hs ⊢
          rw [flV_bare]
          clear hK
          have hK := hs.arr [3, 4, 5, 6, 7] 8 (by decide)
          refine lw_nil ⟨hK, ?_⟩
          first | refine aw_takeOn 23 rfl (by kernel_rfl) (by kernel_rfl) (by kernel_rfl) rfl rfl rfl (decide_eq_true hst1) (fun w hs => run_eqerrn (ad := ad) rfl) hK ?_ | refine aw_takeOn 23 rfl (by kernel_rfl) (by kernel_rfl) (by kernel_rfl) rfl rfl rfl (decide_eq_true hst1) (fun w hs => run_eqnn rfl) hK ?_ | refine aw_takeOn 23 rfl (by kernel_rfl) (by kernel_rfl) (by kernel_rfl) rfl rfl rfl (decide_eq_true hst1) (fun w hs => run_eqE (ad := ad) rfl) hK ?_
          first | refine aw_take 24 rfl (by kernel_rfl) (by kernel_rfl) (by kernel_rfl) rfl (fun w hs => run_pickT (v := .bool _) rfl (decide_eq_true hst1) rfl) hK ?_
          first | refine aw_take 25 rfl (by kernel_rfl) (by kernel_rfl) (by kernel_rfl) rfl (fun w hs => run_assign (v := .bool _) rfl) hK ?_
          refine aw_done (by kernel_rfl) ?_
          clear hK
          refine cw_ret ?_
          refine res1 (v := .bool _) rfl rfl ?_
          exact ⟨_, rfl, rfl, hs.nil⟩
        · intro h56
          have g56 := of_decide_eq_false h56
          refine cw_seq ?_
          refine cw_region ?_
          refine lw_val rfl (run_eqi rfl rfl) ?_
          first | refine lw_val rfl (run_assign (v := .bool _) rfl) ?_
          refine lw_nil ?_
          refine cw_if rfl ?_ ?_
          · intro h62
            have g62 := of_decide_eq_true h62
            refine cw_drawS mixes (hs.drop 2) ?_
            intro w tr hK
            replace hs := tr _ hs
            clear tr
            first | refine aw_take 0 rfl (by kernel_rfl) (by kernel_rfl) (by kernel_rfl) rfl (fun w hs => run_fieldAddr (o' := 5) Tryd.underlying39 rfl sz37 rfl rfl rfl) hK ?_ | refine aw_take 0 rfl (by kernel_rfl) (by kernel_rfl) (by kernel_rfl) rfl (fun w hs => run_fieldAddr Tryd.underlying39 rfl sz37 rfl rfl rfl) hK ?_
            first | refine aw_take 1 rfl (by kernel_rfl) (by kernel_rfl) (by kernel_rfl) rfl (fun w hs => run_load Tryd.underlying37 rfl rfl (hs.cellAt 0 rfl rfl)) hK ?_ | refine aw_take 1 rfl (by kernel_rfl) (by kernel_rfl) (by kernel_rfl) rfl (fun w hs => run_load Tryd.underlying37 rfl rfl (hs.cellAt 1 rfl rfl)) hK ?_ | refine aw_take 1 rfl (by kernel_rfl) (by kernel_rfl) (by kernel_rfl) rfl (fun w hs => run_load Tryd.underlying37 rfl rfl (hs.cellAt 2 rfl rfl)) hK ?_ | refine aw_take 1 rfl (by kernel_rfl) (by kernel_rfl) (by kernel_rfl) rfl (fun w hs => run_load Tryd.underlying37 rfl rfl (hs.cellAt 3 rfl rfl)) hK ?_ | refine aw_take 1 rfl (by kernel_rfl) (by kernel_rfl) (by kernel_rfl) rfl (fun w hs => run_load Tryd.underlying37 rfl rfl (hs.cellAt 4 rfl rfl)) hK ?_ | refine aw_take 1 rfl (by kernel_rfl) (by kernel_rfl) (by kernel_rfl) rfl (fun w hs => run_load Tryd.underlying37 rfl rfl (hs.cellAt 5 rfl rfl)) hK ?_ | refine aw_take 1 rfl (by kernel_rfl) (by kernel_rfl) (by kernel_rfl) rfl (fun w hs => run_load Tryd.underlying37 rfl rfl (hs.cellAt 6 rfl rfl)) hK ?_ | refine aw_take 1 rfl (by kernel_rfl) (by kernel_rfl) (by kernel_rfl) rfl (fun w hs => run_load Tryd.underlying37 rfl rfl (hs.cellAt 7 rfl rfl)) hK ?_ | refine aw_take 1 rfl (by kernel_rfl) (by kernel_rfl) (by kernel_rfl) rfl (fun w hs => run_load Tryd.underlying37 rfl rfl (hs.cellAt 8 rfl rfl)) hK ?_ | refine aw_take 1 rfl (by kernel_rfl) (by kernel_rfl) (by kernel_rfl) rfl (fun w hs => run_load Tryd.underlying37 rfl rfl (hs.cellAt 9 rfl rfl)) hK ?_ | refine aw_take 1 rfl (by kernel_rfl) (by kernel_rfl) (by kernel_rfl) rfl (fun w hs => run_load Tryd.underlying37 rfl rfl (hs.cellAt 10 rfl rfl)) hK ?_ | refine aw_take 1 rfl (by kernel_rfl) (by kernel_rfl) (by kernel_rfl) rfl (fun w hs => run_load Tryd.underlying37 rfl rfl (hs.cellAt 11 rfl rfl)) hK ?_ | refine aw_take 1 rfl (by kernel_rfl) (by kernel_rfl) (by kernel_rfl) rfl (fun w hs => run_load Tryd.underlying37 rfl rfl (hs.cellAt 12 rfl rfl)) hK ?_ | refine aw_take 1 rfl (by kernel_rfl) (by kernel_rfl) (by kernel_rfl) rfl (fun w hs => run_load Tryd.underlying37 rfl rfl (hs.cellAt 13 rfl rfl)) hK ?_
            first | refine aw_take 2 rfl (by kernel_rfl) (by kernel_rfl) (by kernel_rfl) rfl (fun w hs => run_fieldAddr (o' := 5) Tryd.underlying39 rfl sz37 rfl rfl rfl) hK ?_ | refine aw_take 2 rfl (by kernel_rfl) (by kernel_rfl) (by kernel_rfl) rfl (fun w hs => run_fieldAddr Tryd.underlying39 rfl sz37 rfl rfl rfl) hK ?_
            first | refine aw_take 3 rfl (by kernel_rfl) (by kernel_rfl) (by kernel_rfl) rfl (fun w hs => run_load Tryd.underlying37 rfl rfl (hs.cellAt 0 rfl rfl)) hK ?_ | refine aw_take 3 rfl (by kernel_rfl) (by kernel_rfl) (by kernel_rfl) rfl (fun w hs => run_load Tryd.underlying37 rfl rfl (hs.cellAt 1 rfl rfl)) hK ?_ | refine aw_take 3 rfl (by kernel_rfl) (by kernel_rfl) (by kernel_rfl) rfl (fun w hs => run_load Tryd.underlying37 rfl rfl (hs.cellAt 2 rfl rfl)) hK ?_ | refine aw_take 3 rfl (by kernel_rfl) (by kernel_rfl) (by kernel_rfl) rfl (fun w hs => run_load Tryd.underlying37 rfl rfl (hs.cellAt 3 rfl rfl)) hK ?_ | refine aw_take 3 rfl (by kernel_rfl) (by kernel_rfl) (by kernel_rfl) rfl (fun w hs => run_load Tryd.underlying37 rfl rfl (hs.cellAt 4 rfl rfl)) hK ?_ | refine aw_take 3 rfl (by kernel_rfl) (by kernel_rfl) (by kernel_rfl) rfl (fun w hs => run_load Tryd.underlying37 rfl rfl (hs.cellAt 5 rfl rfl)) hK ?_ | refine aw_take 3 rfl (by kernel_rfl) (by kernel_rfl) (by kernel_rfl) rfl (fun w hs => run_load Tryd.underlying37 rfl rfl (hs.cellAt 6 rfl rfl)) hK ?_ | refine aw_take 3 rfl (by kernel_rfl) (by kernel_rfl) (by kernel_rfl) rfl (fun w hs => run_load Tryd.underlying37 rfl rfl (hs.cellAt 7 rfl rfl)) hK ?_ | refine aw_take 3 rfl (by kernel_rfl) (by kernel_rfl) (by kernel_rfl) rfl (fun w hs => run_load Tryd.underlying37 rfl rfl (hs.cellAt 8 rfl rfl)) hK ?_ | refine aw_take 3 rfl (by kernel_rfl) (by kernel_rfl) (by kernel_rfl) rfl (fun w hs => run_load Tryd.underlying37 rfl rfl (hs.cellAt 9 rfl rfl)) hK ?_ | refine aw_take 3 rfl (by kernel_rfl) (by kernel_rfl) (by kernel_rfl) rfl (fun w hs => run_load Tryd.underlying37 rfl rfl (hs.cellAt 10 rfl rfl)) hK ?_ | refine aw_take 3 rfl (by kernel_rfl) (by kernel_rfl) (by kernel_rfl) rfl (fun w hs => run_load Tryd.underlying37 rfl rfl (hs.cellAt 11 rfl rfl)) hK ?_ | refine aw_take 3 rfl (by kernel_rfl) (by kernel_rfl) (by kernel_rfl) rfl (fun w hs => run_load Tryd.underlying37 rfl rfl (hs.cellAt 12 rfl rfl)) hK ?_ | refine aw_take 3 rfl (by kernel_rfl) (by kernel_rfl) (by kernel_rfl) rfl (fun w hs => run_load Tryd.underlying37 rfl rfl (hs.cellAt 13 rfl rfl)) hK ?_
            refine aw_take 4 rfl (by kernel_rfl) (by kernel_rfl) (by kernel_rfl) rfl (fun w hs => run_indexAddrK Tryd.underlying37 sz35 rfl rfl (i := 0) rfl (by omega) rfl) hK ?_
            first | refine aw_take 5 rfl (by kernel_rfl) (by kernel_rfl) (by kernel_rfl) rfl (fun w hs => run_fieldAddr (o' := 2) Tryd.underlying35 rfl sz33 rfl rfl rfl) hK ?_ | refine aw_take 5 rfl (by kernel_rfl) (by kernel_rfl) (by kernel_rfl) rfl (fun w hs => run_fieldAddr Tryd.underlying35 rfl sz33 rfl rfl rfl) hK ?_
            refine aw_ready [6] (by kernel_rfl) (by simp) ?_
            refine ⟨⟨_, rfl, ?_⟩, trivial⟩
            refine lw_val rfl (run_load Tryd.underlying33 rfl rfl ((RdK.row 2 rfl : RdK g _ 3 (.slice (some ⟨bo, oo, none⟩) m.obs.length sc) (m.obs.map obL)).cell hs (q := 0) (row := obL y0) (obL_at hy0) (j := 2) rfl)) ?_
            clear hK
            have hK := hs.drop 2
            refine lw_nil ⟨hK, ?_⟩
            refine @aw_take _ _ _ _ _ _ _ _ _ _ _ _ _ _ 7 _ rfl (by kernel_rfl) (by kernel_rfl) (by kernel_rfl) rfl (fun w hs => run_bits (v := .int .u32 ((y0.2.2 ^^^ 5 : Nat) : Int)) (by simp) rfl rfl (by rw [← xor_u32 y0.2.2 5 huy (by decide)]; rfl)) hK ?_
            refine aw_take 8 rfl (by kernel_rfl) (by kernel_rfl) (by kernel_rfl) rfl (fun w hs => run_indexAddrK Tryd.underlying37 sz35 rfl rfl (i := 0) rfl (by omega) rfl) hK ?_
            first | refine aw_take 9 rfl (by kernel_rfl) (by kernel_rfl) (by kernel_rfl) rfl (fun w hs => run_fieldAddr (o' := 2) Tryd.underlying35 rfl sz33 rfl rfl rfl) hK ?_ | refine aw_take 9 rfl (by kernel_rfl) (by kernel_rfl) (by kernel_rfl) rfl (fun w hs => run_fieldAddr Tryd.underlying35 rfl sz33 rfl rfl rfl) hK ?_
            refine aw_ready [10] (by kernel_rfl) (by simp) ?_
            refine ⟨⟨_, rfl, ?_⟩, trivial⟩
            refine lw_storeK hs 2 (q := 0) (j := 2) (v := .int .u32 ((y0.2.2 ^^^ 5 : Nat) : Int)) rfl sz33 rfl (obL_at hy0) (by decide) (by first | rfl | (show oo + (0 * 3 + 2) = oo + 0 * 3 + 2; omega)) rfl rfl ?_
            clear hs
            intro w hs
            clear hK
            have hK := hs.drop 2
            refine lw_nil ⟨hK, ?_⟩
            refine aw_done (by kernel_rfl) ?_
            clear hK
            refine cw_seq ?_
            obtain ⟨m2, hm2⟩ : ∃ m2 : Mf, m2 = { m with obs := m.obs.set 0 (y0.1, y0.2.1, y0.2.2 ^^^ 5) } := ⟨_, rfl⟩
            have hne : m ≠ m2 := by rw [hm2]; exact fun e => set_ne hy0 (fun e2 => xor5_ne y0.2.2 (congrArg (fun z : Ob => z.2.2) e2).symm) (congrArg Mf.obs e)
            have hid2 : m2.id = m.id := by rw [hm2]
            have hol2 : m2.obs.length ≤ 1000000 := by rw [hm2]; simp; omega
            replace hs : Mem g w [cells b9 (mfL m2 s1 (some ⟨bo, oo, none⟩, sc)) 39, rowK 2 (.slice s1.1 m2.eps.length s1.2) (m2.eps.map prL), rowK 3 (.slice (some ⟨bo, oo, none⟩) m2.obs.length sc) (m2.obs.map obL), ViewC p V1, cells b3 (mfL m e o) 39] := by rw [hm2]; simp only [List.map_set, mfL, List.length_set]; exact hs
            obtain ⟨kv, hkv⟩ : ∃ kv, kv = (kd % ((2 : Nat) : Int)).toNat := ⟨_, rfl⟩
            have hkv2 : kv < 2 := by have := Int.emod_lt_of_pos kd (show (0 : Int) < (2 : Nat) by decide); have := Int.emod_nonneg kd (show ((2 : Nat) : Int) ≠ 0 by decide); omega
            have hk23 : (kv : Int) + 2 = 2 ∨ (kv : Int) + 2 = 3 := by omega
            obtain ⟨f, hf0, hfp, hbad⟩ := other_bad hk23 hid2 hne
            have hgood := other_good (m := m) hk23 hF
            rw [← hV1] at hbad hgood
            have hst1 : V1.state m.id = 1 := by rw [hV1]; simp [Vw.state, aget]
            have hvl : V1.length ≤ 100 := by rw [hV1]; simp
            have hsm : V1.sums := by rw [hV1]; exact one_sums hu
            refine cw_region ?_
            first | refine lw_val rfl (run_move (v := .pointer (some _)) rfl) ?_ | refine lw_val rfl (run_move (v := .pointer none) rfl) ?_ | refine lw_val rfl (run_move (v := .pointer _) rfl) ?_
            refine lw_call rfl en28 (viewB_sl hE (L := [_, _, _, _]) (hs.arr [3, 0, 1, 2, 4] 5 (by decide)) hvl hsm) ?_
            clear hs
            rintro _ w ⟨a74, c74, rfl, hs⟩
            replace hs := hs.arr [0, 2, 3, 4, 1, 5] 6 (by decide)
            first | refine lw_val rfl (run_assign (v := .slice _ _ _) rfl) ?_
            refine lw_nil ?_
            refine cw_seq ?_
            refine cw_drawS mixes hs ?_
            intro w tr hK
            replace hs := tr _ hs
            clear tr
            first | refine aw_take 0 rfl (by kernel_rfl) (by kernel_rfl) (by kernel_rfl) rfl (fun w hs => run_move (v := .pointer (some _)) rfl) hK ?_ | refine aw_take 0 rfl (by kernel_rfl) (by kernel_rfl) (by kernel_rfl) rfl (fun w hs => run_move (v := .pointer none) rfl) hK ?_ | refine aw_take 0 rfl (by kernel_rfl) (by kernel_rfl) (by kernel_rfl) rfl (fun w hs => run_move (v := .pointer _) rfl) hK ?_
            first | refine aw_take 1 rfl (by kernel_rfl) (by kernel_rfl) (by kernel_rfl) rfl (fun w hs => run_move (v := .int .i64 _) rfl) hK ?_
            first | refine aw_take 4 rfl (by kernel_rfl) (by kernel_rfl) (by kernel_rfl) rfl (fun w hs => run_loadRow hs 0 rfl Tryd.underlying39 sz39 rfl) hK ?_ | refine aw_take 4 rfl (by kernel_rfl) (by kernel_rfl) (by kernel_rfl) rfl (fun w hs => run_loadRow hs 1 rfl Tryd.underlying39 sz39 rfl) hK ?_ | refine aw_take 4 rfl (by kernel_rfl) (by kernel_rfl) (by kernel_rfl) rfl (fun w hs => run_loadRow hs 2 rfl Tryd.underlying39 sz39 rfl) hK ?_ | refine aw_take 4 rfl (by kernel_rfl) (by kernel_rfl) (by kernel_rfl) rfl (fun w hs => run_loadRow hs 3 rfl Tryd.underlying39 sz39 rfl) hK ?_ | refine aw_take 4 rfl (by kernel_rfl) (by kernel_rfl) (by kernel_rfl) rfl (fun w hs => run_loadRow hs 4 rfl Tryd.underlying39 sz39 rfl) hK ?_ | refine aw_take 4 rfl (by kernel_rfl) (by kernel_rfl) (by kernel_rfl) rfl (fun w hs => run_loadRow hs 5 rfl Tryd.underlying39 sz39 rfl) hK ?_ | refine aw_take 4 rfl (by kernel_rfl) (by kernel_rfl) (by kernel_rfl) rfl (fun w hs => run_loadRow hs 6 rfl Tryd.underlying39 sz39 rfl) hK ?_ | refine aw_take 4 rfl (by kernel_rfl) (by kernel_rfl) (by kernel_rfl) rfl (fun w hs => run_loadRow hs 7 rfl Tryd.underlying39 sz39 rfl) hK ?_ | refine aw_take 4 rfl (by kernel_rfl) (by kernel_rfl) (by kernel_rfl) rfl (fun w hs => run_loadRow hs 8 rfl Tryd.underlying39 sz39 rfl) hK ?_ | refine aw_take 4 rfl (by kernel_rfl) (by kernel_rfl) (by kernel_rfl) rfl (fun w hs => run_loadRow hs 9 rfl Tryd.underlying39 sz39 rfl) hK ?_ | refine aw_take 4 rfl (by kernel_rfl) (by kernel_rfl) (by kernel_rfl) rfl (fun w hs => run_loadRow hs 10 rfl Tryd.underlying39 sz39 rfl) hK ?_ | refine aw_take 4 rfl (by kernel_rfl) (by kernel_rfl) (by kernel_rfl) rfl (fun w hs => run_loadRow hs 11 rfl Tryd.underlying39 sz39 rfl) hK ?_ | refine aw_take 4 rfl (by kernel_rfl) (by kernel_rfl) (by kernel_rfl) rfl (fun w hs => run_loadRow hs 12 rfl Tryd.underlying39 sz39 rfl) hK ?_ | refine aw_take 4 rfl (by kernel_rfl) (by kernel_rfl) (by kernel_rfl) rfl (fun w hs => run_loadRow hs 13 rfl Tryd.underlying39 sz39 rfl) hK ?_
            refine aw_ready [2] (by kernel_rfl) (by simp) ?_
            refine ⟨⟨_, rfl, ?_⟩, trivial⟩
            refine lw_call rfl en14 (numberE_sl hs kd 2 (by decide)) ?_
            clear hs
            rintro _ w ⟨rfl, hs⟩
            rw [← hkv]
            clear hK
            have hK := hs
            refine lw_nil ⟨hK, ?_⟩
            refine aw_take 3 rfl (by kernel_rfl) (by kernel_rfl) (by kernel_rfl) rfl (fun w hs => run_add64 rfl rfl (c := (kv : Int) + 2) rfl (inI (by omega) (by omega))) hK ?_
            refine @aw_take _ _ _ _ _ _ _ _ _ _ _ _ _ _ 5 _ rfl (by kernel_rfl) (by kernel_rfl) (by kernel_rfl) rfl (fun w hs => run_buildKM (k := (kv : Int) + 2) (m := m2) (e := s1) (o := (some ⟨bo, oo, none⟩, sc)) Tryd.underlying52 ze52 pl52 rfl rfl) hK ?_
            refine aw_ready [6] (by kernel_rfl) (by simp) ?_
            refine ⟨⟨_, rfl, ?_⟩, trivial⟩
            refine lw_call rfl en23 (apply_sl hE (L := [_, _, _, _, _]) (hs.arr [4, 0, 1, 2, 3, 5] 6 (by decide)) ((kv : Int) + 2) (MfR.own 2 3 rfl rfl) hol2) ?_
            clear hs
            rintro _ w ⟨eb2, rfl, hs⟩
            rw [hbad] at hs ⊢
            replace hs := hs.tail.arr [1, 2, 3, 4, 0, 5] 6 (by decide)
            clear hK
            have hK := hs
            refine lw_nil ⟨hK, ?_⟩
            first | refine aw_take 7 rfl (by kernel_rfl) (by kernel_rfl) (by kernel_rfl) rfl (fun w hs => run_assign (v := errV ad _) rfl) hK ?_ | refine aw_take 7 rfl (by kernel_rfl) (by kernel_rfl) (by kernel_rfl) rfl (fun w hs => run_assign (v := .nilIface) rfl) hK ?_ | refine aw_take 7 rfl (by kernel_rfl) (by kernel_rfl) (by kernel_rfl) rfl (fun w hs => run_assign (v := eV ad _ _) rfl) hK ?_ | refine aw_take 7 rfl (by kernel_rfl) (by kernel_rfl) (by kernel_rfl) rfl (fun w hs => run_assign (v := .iface _ (.pointer (some _))) rfl) hK ?_ | refine aw_take 7 rfl (by kernel_rfl) (by kernel_rfl) (by kernel_rfl) rfl (fun w hs => run_assign (v := flV ad _ _) rfl) hK ?_
            refine aw_done (by kernel_rfl) ?_
            clear hK
            refine cw_seq ?_
            refine cw_drawS mixes (hs.drop 4) ?_
            intro w tr hK
            replace hs := tr _ hs
            clear tr
            first | refine aw_take 0 rfl (by kernel_rfl) (by kernel_rfl) (by kernel_rfl) rfl (fun w hs => run_move (v := errV ad _) rfl) hK ?_ | refine aw_take 0 rfl (by kernel_rfl) (by kernel_rfl) (by kernel_rfl) rfl (fun w hs => run_move (v := .nilIface) rfl) hK ?_ | refine aw_take 0 rfl (by kernel_rfl) (by kernel_rfl) (by kernel_rfl) rfl (fun w hs => run_move (v := eV ad _ _) rfl) hK ?_ | refine aw_take 0 rfl (by kernel_rfl) (by kernel_rfl) (by kernel_rfl) rfl (fun w hs => run_move (v := .iface _ (.pointer (some _))) rfl) hK ?_ | refine aw_take 0 rfl (by kernel_rfl) (by kernel_rfl) (by kernel_rfl) rfl (fun w hs => run_move (v := flV ad _ _) rfl) hK ?_
            refine @aw_take _ _ _ _ _ _ _ _ _ _ _ _ _ _ 1 _ rfl (by kernel_rfl) (by kernel_rfl) (by kernel_rfl) rfl (fun w hs => run_neF hfp rfl) hK ?_
            first | refine aw_take 2 rfl (by kernel_rfl) (by kernel_rfl) (by kernel_rfl) rfl (fun w hs => run_move (v := .bool _) rfl) hK ?_
            first | refine aw_takeOn 3 rfl (by kernel_rfl) (by kernel_rfl) (by kernel_rfl) rfl rfl rfl (by rw [decide_eq_false hf0]; rfl) (fun w hs => run_move (v := .pointer (some _)) rfl) hK ?_ | refine aw_takeOn 3 rfl (by kernel_rfl) (by kernel_rfl) (by kernel_rfl) rfl rfl rfl (by rw [decide_eq_false hf0]; rfl) (fun w hs => run_move (v := .pointer none) rfl) hK ?_ | refine aw_takeOn 3 rfl (by kernel_rfl) (by kernel_rfl) (by kernel_rfl) rfl rfl rfl (by rw [decide_eq_false hf0]; rfl) (fun w hs => run_move (v := .pointer _) rfl) hK ?_
            first | refine aw_takeOn 5 rfl (by kernel_rfl) (by kernel_rfl) (by kernel_rfl) rfl rfl rfl (by rw [decide_eq_false hf0]; rfl) (fun w hs => run_move (v := .slice _ _ _) rfl) hK ?_
            refine aw_ready [4] (by kernel_rfl) (by simp) ?_
            refine ⟨⟨_, rfl, ?_⟩, trivial⟩
            refine lw_on rfl rfl (by rw [decide_eq_false hf0]; rfl) ?_
            refine lw_call rfl en28 (viewB_sl hE (L := [_, _, _, _, _]) (hs.arr [4, 0, 1, 2, 3, 5] 6 (by decide)) hvl hsm) ?_
            clear hs
            rintro _ w ⟨a86, c86, rfl, hs⟩
            replace hs := hs.arr [0, 2, 3, 4, 5, 1, 6] 7 (by decide)
            clear hK
            have hK := hs.tail.drop 4
            refine lw_nil ⟨hK, ?_⟩
            refine aw_ready [6] (by kernel_rfl) (by simp) ?_
            refine ⟨⟨_, rfl, ?_⟩, trivial⟩
            refine lw_on rfl rfl (by rw [decide_eq_false hf0]; rfl) ?_
            refine lw_call rfl en29 (sameB_sl hs (la := vwB V1) (lb := vwB V1) (Rd.own 0 rfl) (Rd.own 1 rfl) rfl rfl (by rw [vwB, sealL_len]; have := vwBody_len hok hvl; omega)) ?_
            clear hs
            rintro _ w ⟨rfl, hs⟩
            clear hK
            have hK := hs.tail.drop 4
            refine lw_nil ⟨hK, ?_⟩
            first | refine aw_take 7 rfl (by kernel_rfl) (by kernel_rfl) (by kernel_rfl) rfl (fun w hs => run_pickT (v := .bool _) rfl (by rw [decide_eq_false hf0]; rfl) rfl) hK ?_
            first | refine aw_take 8 rfl (by kernel_rfl) (by kernel_rfl) (by kernel_rfl) rfl (fun w hs => run_move (v := .bool _) rfl) hK ?_
            first | refine aw_takeOn 9 rfl (by kernel_rfl) (by kernel_rfl) (by kernel_rfl) rfl rfl rfl (decide_eq_true rfl) (fun w hs => run_move (v := .pointer (some _)) rfl) hK ?_ | refine aw_takeOn 9 rfl (by kernel_rfl) (by kernel_rfl) (by kernel_rfl) rfl rfl rfl (decide_eq_true rfl) (fun w hs => run_move (v := .pointer none) rfl) hK ?_ | refine aw_takeOn 9 rfl (by kernel_rfl) (by kernel_rfl) (by kernel_rfl) rfl rfl rfl (decide_eq_true rfl) (fun w hs => run_move (v := .pointer _) rfl) hK ?_
            first | refine aw_takeOn 10 rfl (by kernel_rfl) (by kernel_rfl) (by kernel_rfl) rfl rfl rfl (decide_eq_true rfl) (fun w hs => run_fieldAddr (o' := 0) Tryd.underlying39 rfl sz3 rfl rfl rfl) hK ?_ | refine aw_takeOn 10 rfl (by kernel_rfl) (by kernel_rfl) (by kernel_rfl) rfl rfl rfl (decide_eq_true rfl) (fun w hs => run_fieldAddr Tryd.underlying39 rfl sz3 rfl rfl rfl) hK ?_
            first | refine aw_takeOn 11 rfl (by kernel_rfl) (by kernel_rfl) (by kernel_rfl) rfl rfl rfl (decide_eq_true rfl) (fun w hs => run_load Tryd.underlying3 rfl rfl (hs.cellAt 0 rfl rfl)) hK ?_ | refine aw_takeOn 11 rfl (by kernel_rfl) (by kernel_rfl) (by kernel_rfl) rfl rfl rfl (decide_eq_true rfl) (fun w hs => run_load Tryd.underlying3 rfl rfl (hs.cellAt 1 rfl rfl)) hK ?_ | refine aw_takeOn 11 rfl (by kernel_rfl) (by kernel_rfl) (by kernel_rfl) rfl rfl rfl (decide_eq_true rfl) (fun w hs => run_load Tryd.underlying3 rfl rfl (hs.cellAt 2 rfl rfl)) hK ?_ | refine aw_takeOn 11 rfl (by kernel_rfl) (by kernel_rfl) (by kernel_rfl) rfl rfl rfl (decide_eq_true rfl) (fun w hs => run_load Tryd.underlying3 rfl rfl (hs.cellAt 3 rfl rfl)) hK ?_ | refine aw_takeOn 11 rfl (by kernel_rfl) (by kernel_rfl) (by kernel_rfl) rfl rfl rfl (decide_eq_true rfl) (fun w hs => run_load Tryd.underlying3 rfl rfl (hs.cellAt 4 rfl rfl)) hK ?_ | refine aw_takeOn 11 rfl (by kernel_rfl) (by kernel_rfl) (by kernel_rfl) rfl rfl rfl (decide_eq_true rfl) (fun w hs => run_load Tryd.underlying3 rfl rfl (hs.cellAt 5 rfl rfl)) hK ?_ | refine aw_takeOn 11 rfl (by kernel_rfl) (by kernel_rfl) (by kernel_rfl) rfl rfl rfl (decide_eq_true rfl) (fun w hs => run_load Tryd.underlying3 rfl rfl (hs.cellAt 6 rfl rfl)) hK ?_ | refine aw_takeOn 11 rfl (by kernel_rfl) (by kernel_rfl) (by kernel_rfl) rfl rfl rfl (decide_eq_true rfl) (fun w hs => run_load Tryd.underlying3 rfl rfl (hs.cellAt 7 rfl rfl)) hK ?_ | refine aw_takeOn 11 rfl (by kernel_rfl) (by kernel_rfl) (by kernel_rfl) rfl rfl rfl (decide_eq_true rfl) (fun w hs => run_load Tryd.underlying3 rfl rfl (hs.cellAt 8 rfl rfl)) hK ?_ | refine aw_takeOn 11 rfl (by kernel_rfl) (by kernel_rfl) (by kernel_rfl) rfl rfl rfl (decide_eq_true rfl) (fun w hs => run_load Tryd.underlying3 rfl rfl (hs.cellAt 9 rfl rfl)) hK ?_ | refine aw_takeOn 11 rfl (by kernel_rfl) (by kernel_rfl) (by kernel_rfl) rfl rfl rfl (decide_eq_true rfl) (fun w hs => run_load Tryd.underlying3 rfl rfl (hs.cellAt 10 rfl rfl)) hK ?_ | refine aw_takeOn 11 rfl (by kernel_rfl) (by kernel_rfl) (by kernel_rfl) rfl rfl rfl (decide_eq_true rfl) (fun w hs => run_load Tryd.underlying3 rfl rfl (hs.cellAt 11 rfl rfl)) hK ?_ | refine aw_takeOn 11 rfl (by kernel_rfl) (by kernel_rfl) (by kernel_rfl) rfl rfl rfl (decide_eq_true rfl) (fun w hs => run_load Tryd.underlying3 rfl rfl (hs.cellAt 12 rfl rfl)) hK ?_ | refine aw_takeOn 11 rfl (by kernel_rfl) (by kernel_rfl) (by kernel_rfl) rfl rfl rfl (decide_eq_true rfl) (fun w hs => run_load Tryd.underlying3 rfl rfl (hs.cellAt 13 rfl rfl)) hK ?_
            refine aw_ready [12] (by kernel_rfl) (by simp) ?_
            refine ⟨⟨_, rfl, ?_⟩, trivial⟩
            refine lw_on rfl rfl (decide_eq_true rfl) ?_
            refine lw_call rfl en16 (state_sl (L := [_, _, _, _, _, _]) (hs.arr [5, 0, 1, 2, 3, 4, 6] 7 (by decide)) m.id) ?_
            clear hs
            rintro _ w ⟨rfl, hs⟩
            replace hs := hs.arr [1, 2, 3, 4, 5, 0, 6] 7 (by decide)
            clear hK
            have hK := hs.tail.drop 4
            refine lw_nil ⟨hK, ?_⟩
            refine aw_takeOn 13 rfl (by kernel_rfl) (by kernel_rfl) (by kernel_rfl) rfl rfl rfl (decide_eq_true rfl) (fun w hs => run_eqi rfl rfl) hK ?_
            first | refine aw_take 14 rfl (by kernel_rfl) (by kernel_rfl) (by kernel_rfl) rfl (fun w hs => run_pickT (v := .bool _) rfl (decide_eq_true rfl) rfl) hK ?_
            first | refine aw_take 15 rfl (by kernel_rfl) (by kernel_rfl) (by kernel_rfl) rfl (fun w hs => run_move (v := .bool _) rfl) hK ?_
            first | refine aw_takeOn 16 rfl (by kernel_rfl) (by kernel_rfl) (by kernel_rfl) rfl rfl rfl (decide_eq_true hst1) (fun w hs => run_move (v := .pointer (some _)) rfl) hK ?_ | refine aw_takeOn 16 rfl (by kernel_rfl) (by kernel_rfl) (by kernel_rfl) rfl rfl rfl (decide_eq_true hst1) (fun w hs => run_move (v := .pointer none) rfl) hK ?_ | refine aw_takeOn 16 rfl (by kernel_rfl) (by kernel_rfl) (by kernel_rfl) rfl rfl rfl (decide_eq_true hst1) (fun w hs => run_move (v := .pointer _) rfl) hK ?_
            first | refine aw_takeOn 17 rfl (by kernel_rfl) (by kernel_rfl) (by kernel_rfl) rfl rfl rfl (decide_eq_true hst1) (fun w hs => run_move (v := .int .i64 _) rfl) hK ?_
            first | refine aw_takeOn 20 rfl (by kernel_rfl) (by kernel_rfl) (by kernel_rfl) rfl rfl rfl (decide_eq_true hst1) (fun w hs => run_loadRow hs 0 rfl Tryd.underlying39 sz39 rfl) hK ?_ | refine aw_takeOn 20 rfl (by kernel_rfl) (by kernel_rfl) (by kernel_rfl) rfl rfl rfl (decide_eq_true hst1) (fun w hs => run_loadRow hs 1 rfl Tryd.underlying39 sz39 rfl) hK ?_ | refine aw_takeOn 20 rfl (by kernel_rfl) (by kernel_rfl) (by kernel_rfl) rfl rfl rfl (decide_eq_true hst1) (fun w hs => run_loadRow hs 2 rfl Tryd.underlying39 sz39 rfl) hK ?_ | refine aw_takeOn 20 rfl (by kernel_rfl) (by kernel_rfl) (by kernel_rfl) rfl rfl rfl (decide_eq_true hst1) (fun w hs => run_loadRow hs 3 rfl Tryd.underlying39 sz39 rfl) hK ?_ | refine aw_takeOn 20 rfl (by kernel_rfl) (by kernel_rfl) (by kernel_rfl) rfl rfl rfl (decide_eq_true hst1) (fun w hs => run_loadRow hs 4 rfl Tryd.underlying39 sz39 rfl) hK ?_ | refine aw_takeOn 20 rfl (by kernel_rfl) (by kernel_rfl) (by kernel_rfl) rfl rfl rfl (decide_eq_true hst1) (fun w hs => run_loadRow hs 5 rfl Tryd.underlying39 sz39 rfl) hK ?_ | refine aw_takeOn 20 rfl (by kernel_rfl) (by kernel_rfl) (by kernel_rfl) rfl rfl rfl (decide_eq_true hst1) (fun w hs => run_loadRow hs 6 rfl Tryd.underlying39 sz39 rfl) hK ?_ | refine aw_takeOn 20 rfl (by kernel_rfl) (by kernel_rfl) (by kernel_rfl) rfl rfl rfl (decide_eq_true hst1) (fun w hs => run_loadRow hs 7 rfl Tryd.underlying39 sz39 rfl) hK ?_ | refine aw_takeOn 20 rfl (by kernel_rfl) (by kernel_rfl) (by kernel_rfl) rfl rfl rfl (decide_eq_true hst1) (fun w hs => run_loadRow hs 8 rfl Tryd.underlying39 sz39 rfl) hK ?_ | refine aw_takeOn 20 rfl (by kernel_rfl) (by kernel_rfl) (by kernel_rfl) rfl rfl rfl (decide_eq_true hst1) (fun w hs => run_loadRow hs 9 rfl Tryd.underlying39 sz39 rfl) hK ?_ | refine aw_takeOn 20 rfl (by kernel_rfl) (by kernel_rfl) (by kernel_rfl) rfl rfl rfl (decide_eq_true hst1) (fun w hs => run_loadRow hs 10 rfl Tryd.underlying39 sz39 rfl) hK ?_ | refine aw_takeOn 20 rfl (by kernel_rfl) (by kernel_rfl) (by kernel_rfl) rfl rfl rfl (decide_eq_true hst1) (fun w hs => run_loadRow hs 11 rfl Tryd.underlying39 sz39 rfl) hK ?_ | refine aw_takeOn 20 rfl (by kernel_rfl) (by kernel_rfl) (by kernel_rfl) rfl rfl rfl (decide_eq_true hst1) (fun w hs => run_loadRow hs 12 rfl Tryd.underlying39 sz39 rfl) hK ?_ | refine aw_takeOn 20 rfl (by kernel_rfl) (by kernel_rfl) (by kernel_rfl) rfl rfl rfl (decide_eq_true hst1) (fun w hs => run_loadRow hs 13 rfl Tryd.underlying39 sz39 rfl) hK ?_
            refine aw_ready [18] (by kernel_rfl) (by simp) ?_
            refine ⟨⟨_, rfl, ?_⟩, trivial⟩
            refine lw_on rfl rfl (decide_eq_true hst1) ?_
            refine lw_call rfl en14 (numberE_sl hs kd 2 (by decide)) ?_
            clear hs
            rintro _ w ⟨rfl, hs⟩
            rw [← hkv]
            clear hK
            have hK := hs.tail.drop 4
            refine lw_nil ⟨hK, ?_⟩
            refine aw_takeOn 19 rfl (by kernel_rfl) (by kernel_rfl) (by kernel_rfl) rfl rfl rfl (decide_eq_true hst1) (fun w hs => run_add64 rfl rfl (c := (kv : Int) + 2) rfl (inI (by omega) (by omega))) hK ?_
            refine @aw_takeOn _ _ _ _ _ _ _ _ _ _ _ _ _ _ 21 _ _ _ _ _ rfl (by kernel_rfl) (by kernel_rfl) (by kernel_rfl) rfl rfl rfl (decide_eq_true hst1) (fun w hs => run_buildKM (k := (kv : Int) + 2) (m := m) (e := e) (o := o) Tryd.underlying52 ze52 pl52 rfl rfl) hK ?_
            refine aw_ready [22] (by kernel_rfl) (by simp) ?_
            refine ⟨⟨_, rfl, ?_⟩, trivial⟩
            refine lw_on rfl rfl (decide_eq_true hst1) ?_
            refine lw_call rfl en23 (apply_sl hE (L := [_, _, _, _, _, _]) (hs.arr [5, 0, 1, 2, 3, 4, 6] 7 (by decide)) ((kv : Int) + 2) (hm _) (by omega)) ?_
            clear hs
            rintro _ w ⟨eb3, rfl, hs⟩
            rw [hgood] at hs ⊢
            rw [flV_bare]
            clear hK
            have hK := hs.arr [3, 4, 5, 6, 7] 8 (by decide)
            refine lw_nil ⟨hK, ?_⟩
            first | refine aw_takeOn 23 rfl (by kernel_rfl) (by kernel_rfl) (by kernel_rfl) rfl rfl rfl (decide_eq_true hst1) (fun w hs => run_eqerrn (ad := ad) rfl) hK ?_ | refine aw_takeOn 23 rfl (by kernel_rfl) (by kernel_rfl) (by kernel_rfl) rfl rfl rfl (decide_eq_true hst1) (fun w hs => run_eqnn rfl) hK ?_ | refine aw_takeOn 23 rfl (by kernel_rfl) (by kernel_rfl) (by kernel_rfl) rfl rfl rfl (decide_eq_true hst1) (fun w hs => run_eqE (ad := ad) rfl) hK ?_
            first | refine aw_take 24 rfl (by kernel_rfl) (by kernel_rfl) (by kernel_rfl) rfl (fun w hs => run_pickT (v := .bool _) rfl (decide_eq_true hst1) rfl) hK ?_
            first | refine aw_take 25 rfl (by kernel_rfl) (by kernel_rfl) (by kernel_rfl) rfl (fun w hs => run_assign (v := .bool _) rfl) hK ?_
            refine aw_done (by kernel_rfl) ?_
            clear hK
            refine cw_ret ?_
            refine res1 (v := .bool _) rfl rfl ?_
            exact ⟨_, rfl, rfl, hs.nil⟩
          · intro h62
            have g62 := of_decide_eq_false h62
            refine cw_drawS mixes (hs.drop 2) ?_
            intro w tr hK
            replace hs := tr _ hs
            clear tr
            first | refine aw_take 0 rfl (by kernel_rfl) (by kernel_rfl) (by kernel_rfl) rfl (fun w hs => run_fieldAddr (o' := 5) Tryd.underlying39 rfl sz37 rfl rfl rfl) hK ?_ | refine aw_take 0 rfl (by kernel_rfl) (by kernel_rfl) (by kernel_rfl) rfl (fun w hs => run_fieldAddr Tryd.underlying39 rfl sz37 rfl rfl rfl) hK ?_
            first | refine aw_take 1 rfl (by kernel_rfl) (by kernel_rfl) (by kernel_rfl) rfl (fun w hs => run_load Tryd.underlying37 rfl rfl (hs.cellAt 0 rfl rfl)) hK ?_ | refine aw_take 1 rfl (by kernel_rfl) (by kernel_rfl) (by kernel_rfl) rfl (fun w hs => run_load Tryd.underlying37 rfl rfl (hs.cellAt 1 rfl rfl)) hK ?_ | refine aw_take 1 rfl (by kernel_rfl) (by kernel_rfl) (by kernel_rfl) rfl (fun w hs => run_load Tryd.underlying37 rfl rfl (hs.cellAt 2 rfl rfl)) hK ?_ | refine aw_take 1 rfl (by kernel_rfl) (by kernel_rfl) (by kernel_rfl) rfl (fun w hs => run_load Tryd.underlying37 rfl rfl (hs.cellAt 3 rfl rfl)) hK ?_ | refine aw_take 1 rfl (by kernel_rfl) (by kernel_rfl) (by kernel_rfl) rfl (fun w hs => run_load Tryd.underlying37 rfl rfl (hs.cellAt 4 rfl rfl)) hK ?_ | refine aw_take 1 rfl (by kernel_rfl) (by kernel_rfl) (by kernel_rfl) rfl (fun w hs => run_load Tryd.underlying37 rfl rfl (hs.cellAt 5 rfl rfl)) hK ?_ | refine aw_take 1 rfl (by kernel_rfl) (by kernel_rfl) (by kernel_rfl) rfl (fun w hs => run_load Tryd.underlying37 rfl rfl (hs.cellAt 6 rfl rfl)) hK ?_ | refine aw_take 1 rfl (by kernel_rfl) (by kernel_rfl) (by kernel_rfl) rfl (fun w hs => run_load Tryd.underlying37 rfl rfl (hs.cellAt 7 rfl rfl)) hK ?_ | refine aw_take 1 rfl (by kernel_rfl) (by kernel_rfl) (by kernel_rfl) rfl (fun w hs => run_load Tryd.underlying37 rfl rfl (hs.cellAt 8 rfl rfl)) hK ?_ | refine aw_take 1 rfl (by kernel_rfl) (by kernel_rfl) (by kernel_rfl) rfl (fun w hs => run_load Tryd.underlying37 rfl rfl (hs.cellAt 9 rfl rfl)) hK ?_ | refine aw_take 1 rfl (by kernel_rfl) (by kernel_rfl) (by kernel_rfl) rfl (fun w hs => run_load Tryd.underlying37 rfl rfl (hs.cellAt 10 rfl rfl)) hK ?_ | refine aw_take 1 rfl (by kernel_rfl) (by kernel_rfl) (by kernel_rfl) rfl (fun w hs => run_load Tryd.underlying37 rfl rfl (hs.cellAt 11 rfl rfl)) hK ?_ | refine aw_take 1 rfl (by kernel_rfl) (by kernel_rfl) (by kernel_rfl) rfl (fun w hs => run_load Tryd.underlying37 rfl rfl (hs.cellAt 12 rfl rfl)) hK ?_ | refine aw_take 1 rfl (by kernel_rfl) (by kernel_rfl) (by kernel_rfl) rfl (fun w hs => run_load Tryd.underlying37 rfl rfl (hs.cellAt 13 rfl rfl)) hK ?_
            first | refine aw_take 2 rfl (by kernel_rfl) (by kernel_rfl) (by kernel_rfl) rfl (fun w hs => run_fieldAddr (o' := 5) Tryd.underlying39 rfl sz37 rfl rfl rfl) hK ?_ | refine aw_take 2 rfl (by kernel_rfl) (by kernel_rfl) (by kernel_rfl) rfl (fun w hs => run_fieldAddr Tryd.underlying39 rfl sz37 rfl rfl rfl) hK ?_
            first | refine aw_take 3 rfl (by kernel_rfl) (by kernel_rfl) (by kernel_rfl) rfl (fun w hs => run_load Tryd.underlying37 rfl rfl (hs.cellAt 0 rfl rfl)) hK ?_ | refine aw_take 3 rfl (by kernel_rfl) (by kernel_rfl) (by kernel_rfl) rfl (fun w hs => run_load Tryd.underlying37 rfl rfl (hs.cellAt 1 rfl rfl)) hK ?_ | refine aw_take 3 rfl (by kernel_rfl) (by kernel_rfl) (by kernel_rfl) rfl (fun w hs => run_load Tryd.underlying37 rfl rfl (hs.cellAt 2 rfl rfl)) hK ?_ | refine aw_take 3 rfl (by kernel_rfl) (by kernel_rfl) (by kernel_rfl) rfl (fun w hs => run_load Tryd.underlying37 rfl rfl (hs.cellAt 3 rfl rfl)) hK ?_ | refine aw_take 3 rfl (by kernel_rfl) (by kernel_rfl) (by kernel_rfl) rfl (fun w hs => run_load Tryd.underlying37 rfl rfl (hs.cellAt 4 rfl rfl)) hK ?_ | refine aw_take 3 rfl (by kernel_rfl) (by kernel_rfl) (by kernel_rfl) rfl (fun w hs => run_load Tryd.underlying37 rfl rfl (hs.cellAt 5 rfl rfl)) hK ?_ | refine aw_take 3 rfl (by kernel_rfl) (by kernel_rfl) (by kernel_rfl) rfl (fun w hs => run_load Tryd.underlying37 rfl rfl (hs.cellAt 6 rfl rfl)) hK ?_ | refine aw_take 3 rfl (by kernel_rfl) (by kernel_rfl) (by kernel_rfl) rfl (fun w hs => run_load Tryd.underlying37 rfl rfl (hs.cellAt 7 rfl rfl)) hK ?_ | refine aw_take 3 rfl (by kernel_rfl) (by kernel_rfl) (by kernel_rfl) rfl (fun w hs => run_load Tryd.underlying37 rfl rfl (hs.cellAt 8 rfl rfl)) hK ?_ | refine aw_take 3 rfl (by kernel_rfl) (by kernel_rfl) (by kernel_rfl) rfl (fun w hs => run_load Tryd.underlying37 rfl rfl (hs.cellAt 9 rfl rfl)) hK ?_ | refine aw_take 3 rfl (by kernel_rfl) (by kernel_rfl) (by kernel_rfl) rfl (fun w hs => run_load Tryd.underlying37 rfl rfl (hs.cellAt 10 rfl rfl)) hK ?_ | refine aw_take 3 rfl (by kernel_rfl) (by kernel_rfl) (by kernel_rfl) rfl (fun w hs => run_load Tryd.underlying37 rfl rfl (hs.cellAt 11 rfl rfl)) hK ?_ | refine aw_take 3 rfl (by kernel_rfl) (by kernel_rfl) (by kernel_rfl) rfl (fun w hs => run_load Tryd.underlying37 rfl rfl (hs.cellAt 12 rfl rfl)) hK ?_ | refine aw_take 3 rfl (by kernel_rfl) (by kernel_rfl) (by kernel_rfl) rfl (fun w hs => run_load Tryd.underlying37 rfl rfl (hs.cellAt 13 rfl rfl)) hK ?_
            refine aw_take 4 rfl (by kernel_rfl) (by kernel_rfl) (by kernel_rfl) rfl (fun w hs => run_indexAddrK Tryd.underlying37 sz35 rfl rfl (i := 0) rfl (by omega) rfl) hK ?_
            first | refine aw_take 5 rfl (by kernel_rfl) (by kernel_rfl) (by kernel_rfl) rfl (fun w hs => run_fieldAddr (o' := 1) Tryd.underlying35 rfl sz3 rfl rfl rfl) hK ?_ | refine aw_take 5 rfl (by kernel_rfl) (by kernel_rfl) (by kernel_rfl) rfl (fun w hs => run_fieldAddr Tryd.underlying35 rfl sz3 rfl rfl rfl) hK ?_
            refine aw_ready [6] (by kernel_rfl) (by simp) ?_
            refine ⟨⟨_, rfl, ?_⟩, trivial⟩
            refine lw_val rfl (run_load Tryd.underlying3 rfl rfl ((RdK.row 2 rfl : RdK g _ 3 (.slice (some ⟨bo, oo, none⟩) m.obs.length sc) (m.obs.map obL)).cell hs (q := 0) (row := obL y0) (obL_at hy0) (j := 1) rfl)) ?_
            clear hK
            have hK := hs.drop 2
            refine lw_nil ⟨hK, ?_⟩
            refine @aw_take _ _ _ _ _ _ _ _ _ _ _ _ _ _ 7 _ rfl (by kernel_rfl) (by kernel_rfl) (by kernel_rfl) rfl (fun w hs => run_bits (v := .int .i64 (bits .xor .i64 y0.2.1 1)) (by simp) rfl rfl rfl) hK ?_
            refine aw_take 8 rfl (by kernel_rfl) (by kernel_rfl) (by kernel_rfl) rfl (fun w hs => run_indexAddrK Tryd.underlying37 sz35 rfl rfl (i := 0) rfl (by omega) rfl) hK ?_
            first | refine aw_take 9 rfl (by kernel_rfl) (by kernel_rfl) (by kernel_rfl) rfl (fun w hs => run_fieldAddr (o' := 1) Tryd.underlying35 rfl sz3 rfl rfl rfl) hK ?_ | refine aw_take 9 rfl (by kernel_rfl) (by kernel_rfl) (by kernel_rfl) rfl (fun w hs => run_fieldAddr Tryd.underlying35 rfl sz3 rfl rfl rfl) hK ?_
            refine aw_ready [10] (by kernel_rfl) (by simp) ?_
            refine ⟨⟨_, rfl, ?_⟩, trivial⟩
            refine lw_storeK hs 2 (q := 0) (j := 1) (v := .int .i64 (bits .xor .i64 y0.2.1 1)) rfl sz3 rfl (obL_at hy0) (by decide) (by first | rfl | (show oo + (0 * 3 + 1) = oo + 0 * 3 + 1; omega)) rfl rfl ?_
            clear hs
            intro w hs
            clear hK
            have hK := hs.drop 2
            refine lw_nil ⟨hK, ?_⟩
            refine aw_done (by kernel_rfl) ?_
            clear hK
            refine cw_seq ?_
            obtain ⟨m2, hm2⟩ : ∃ m2 : Mf, m2 = { m with obs := m.obs.set 0 (y0.1, bits .xor .i64 y0.2.1 1, y0.2.2) } := ⟨_, rfl⟩
            have hne : m ≠ m2 := by rw [hm2]; exact fun e => set_ne hy0 (fun e2 => xor1_ne y0.2.1 (congrArg (fun z : Ob => z.2.1) e2).symm) (congrArg Mf.obs e)
            have hid2 : m2.id = m.id := by rw [hm2]
            have hol2 : m2.obs.length ≤ 1000000 := by rw [hm2]; simp; omega
            replace hs : Mem g w [cells b9 (mfL m2 s1 (some ⟨bo, oo, none⟩, sc)) 39, rowK 2 (.slice s1.1 m2.eps.length s1.2) (m2.eps.map prL), rowK 3 (.slice (some ⟨bo, oo, none⟩) m2.obs.length sc) (m2.obs.map obL), ViewC p V1, cells b3 (mfL m e o) 39] := by rw [hm2]; simp only [List.map_set, mfL, List.length_set]; exact hs
            obtain ⟨kv, hkv⟩ : ∃ kv, kv = (kd % ((2 : Nat) : Int)).toNat := ⟨_, rfl⟩
            have hkv2 : kv < 2 := by have := Int.emod_lt_of_pos kd (show (0 : Int) < (2 : Nat) by decide); have := Int.emod_nonneg kd (show ((2 : Nat) : Int) ≠ 0 by decide); omega
            have hk23 : (kv : Int) + 2 = 2 ∨ (kv : Int) + 2 = 3 := by omega
            obtain ⟨f, hf0, hfp, hbad⟩ := other_bad hk23 hid2 hne
            have hgood := other_good (m := m) hk23 hF
            rw [← hV1] at hbad hgood
            have hst1 : V1.state m.id = 1 := by rw [hV1]; simp [Vw.state, aget]
            have hvl : V1.length ≤ 100 := by rw [hV1]; simp
            have hsm : V1.sums := by rw [hV1]; exact one_sums hu
            refine cw_region ?_
            first | refine lw_val rfl (run_move (v := .pointer (some _)) rfl) ?_ | refine lw_val rfl (run_move (v := .pointer none) rfl) ?_ | refine lw_val rfl (run_move (v := .pointer _) rfl) ?_
            refine lw_call rfl en28 (viewB_sl hE (L := [_, _, _, _]) (hs.arr [3, 0, 1, 2, 4] 5 (by decide)) hvl hsm) ?_
            clear hs
            rintro _ w ⟨a74, c74, rfl, hs⟩
            replace hs := hs.arr [0, 2, 3, 4, 1, 5] 6 (by decide)
            first | refine lw_val rfl (run_assign (v := .slice _ _ _) rfl) ?_
            refine lw_nil ?_
            refine cw_seq ?_
            refine cw_drawS mixes hs ?_
            intro w tr hK
            replace hs := tr _ hs
            clear tr
            first | refine aw_take 0 rfl (by kernel_rfl) (by kernel_rfl) (by kernel_rfl) rfl (fun w hs => run_move (v := .pointer (some _)) rfl) hK ?_ | refine aw_take 0 rfl (by kernel_rfl) (by kernel_rfl) (by kernel_rfl) rfl (fun w hs => run_move (v := .pointer none) rfl) hK ?_ | refine aw_take 0 rfl (by kernel_rfl) (by kernel_rfl) (by kernel_rfl) rfl (fun w hs => run_move (v := .pointer _) rfl) hK ?_
            first | refine aw_take 1 rfl (by kernel_rfl) (by kernel_rfl) (by kernel_rfl) rfl (fun w hs => run_move (v := .int .i64 _) rfl) hK ?_
            first | refine aw_take 4 rfl (by kernel_rfl) (by kernel_rfl) (by kernel_rfl) rfl (fun w hs => run_loadRow hs 0 rfl Tryd.underlying39 sz39 rfl) hK ?_ | refine aw_take 4 rfl (by kernel_rfl) (by kernel_rfl) (by kernel_rfl) rfl (fun w hs => run_loadRow hs 1 rfl Tryd.underlying39 sz39 rfl) hK ?_ | refine aw_take 4 rfl (by kernel_rfl) (by kernel_rfl) (by kernel_rfl) rfl (fun w hs => run_loadRow hs 2 rfl Tryd.underlying39 sz39 rfl) hK ?_ | refine aw_take 4 rfl (by kernel_rfl) (by kernel_rfl) (by kernel_rfl) rfl (fun w hs => run_loadRow hs 3 rfl Tryd.underlying39 sz39 rfl) hK ?_ | refine aw_take 4 rfl (by kernel_rfl) (by kernel_rfl) (by kernel_rfl) rfl (fun w hs => run_loadRow hs 4 rfl Tryd.underlying39 sz39 rfl) hK ?_ | refine aw_take 4 rfl (by kernel_rfl) (by kernel_rfl) (by kernel_rfl) rfl (fun w hs => run_loadRow hs 5 rfl Tryd.underlying39 sz39 rfl) hK ?_ | refine aw_take 4 rfl (by kernel_rfl) (by kernel_rfl) (by kernel_rfl) rfl (fun w hs => run_loadRow hs 6 rfl Tryd.underlying39 sz39 rfl) hK ?_ | refine aw_take 4 rfl (by kernel_rfl) (by kernel_rfl) (by kernel_rfl) rfl (fun w hs => run_loadRow hs 7 rfl Tryd.underlying39 sz39 rfl) hK ?_ | refine aw_take 4 rfl (by kernel_rfl) (by kernel_rfl) (by kernel_rfl) rfl (fun w hs => run_loadRow hs 8 rfl Tryd.underlying39 sz39 rfl) hK ?_ | refine aw_take 4 rfl (by kernel_rfl) (by kernel_rfl) (by kernel_rfl) rfl (fun w hs => run_loadRow hs 9 rfl Tryd.underlying39 sz39 rfl) hK ?_ | refine aw_take 4 rfl (by kernel_rfl) (by kernel_rfl) (by kernel_rfl) rfl (fun w hs => run_loadRow hs 10 rfl Tryd.underlying39 sz39 rfl) hK ?_ | refine aw_take 4 rfl (by kernel_rfl) (by kernel_rfl) (by kernel_rfl) rfl (fun w hs => run_loadRow hs 11 rfl Tryd.underlying39 sz39 rfl) hK ?_ | refine aw_take 4 rfl (by kernel_rfl) (by kernel_rfl) (by kernel_rfl) rfl (fun w hs => run_loadRow hs 12 rfl Tryd.underlying39 sz39 rfl) hK ?_ | refine aw_take 4 rfl (by kernel_rfl) (by kernel_rfl) (by kernel_rfl) rfl (fun w hs => run_loadRow hs 13 rfl Tryd.underlying39 sz39 rfl) hK ?_
            refine aw_ready [2] (by kernel_rfl) (by simp) ?_
            refine ⟨⟨_, rfl, ?_⟩, trivial⟩
            refine lw_call rfl en14 (numberE_sl hs kd 2 (by decide)) ?_
            clear hs
            rintro _ w ⟨rfl, hs⟩
            rw [← hkv]
            clear hK
            have hK := hs
            refine lw_nil ⟨hK, ?_⟩
            refine aw_take 3 rfl (by kernel_rfl) (by kernel_rfl) (by kernel_rfl) rfl (fun w hs => run_add64 rfl rfl (c := (kv : Int) + 2) rfl (inI (by omega) (by omega))) hK ?_
            refine @aw_take _ _ _ _ _ _ _ _ _ _ _ _ _ _ 5 _ rfl (by kernel_rfl) (by kernel_rfl) (by kernel_rfl) rfl (fun w hs => run_buildKM (k := (kv : Int) + 2) (m := m2) (e := s1) (o := (some ⟨bo, oo, none⟩, sc)) Tryd.underlying52 ze52 pl52 rfl rfl) hK ?_
            refine aw_ready [6] (by kernel_rfl) (by simp) ?_
            refine ⟨⟨_, rfl, ?_⟩, trivial⟩
            refine lw_call rfl en23 (apply_sl hE (L := [_, _, _, _, _]) (hs.arr [4, 0, 1, 2, 3, 5] 6 (by decide)) ((kv : Int) + 2) (MfR.own 2 3 rfl rfl) hol2) ?_
            clear hs
            rintro _ w ⟨eb2, rfl, hs⟩
            rw [hbad] at hs ⊢
            replace hs := hs.tail.arr [1, 2, 3, 4, 0, 5] 6 (by decide)
            clear hK
            have hK := hs
            refine lw_nil ⟨hK, ?_⟩
            first | refine aw_take 7 rfl (by kernel_rfl) (by kernel_rfl) (by kernel_rfl) rfl (fun w hs => run_assign (v := errV ad _) rfl) hK ?_ | refine aw_take 7 rfl (by kernel_rfl) (by kernel_rfl) (by kernel_rfl) rfl (fun w hs => run_assign (v := .nilIface) rfl) hK ?_ | refine aw_take 7 rfl (by kernel_rfl) (by kernel_rfl) (by kernel_rfl) rfl (fun w hs => run_assign (v := eV ad _ _) rfl) hK ?_ | refine aw_take 7 rfl (by kernel_rfl) (by kernel_rfl) (by kernel_rfl) rfl (fun w hs => run_assign (v := .iface _ (.pointer (some _))) rfl) hK ?_ | refine aw_take 7 rfl (by kernel_rfl) (by kernel_rfl) (by kernel_rfl) rfl (fun w hs => run_assign (v := flV ad _ _) rfl) hK ?_
            refine aw_done (by kernel_rfl) ?_
            clear hK
            refine cw_seq ?_
            refine cw_drawS mixes (hs.drop 4) ?_
            intro w tr hK
            replace hs := tr _ hs
            clear tr
            first | refine aw_take 0 rfl (by kernel_rfl) (by kernel_rfl) (by kernel_rfl) rfl (fun w hs => run_move (v := errV ad _) rfl) hK ?_ | refine aw_take 0 rfl (by kernel_rfl) (by kernel_rfl) (by kernel_rfl) rfl (fun w hs => run_move (v := .nilIface) rfl) hK ?_ | refine aw_take 0 rfl (by kernel_rfl) (by kernel_rfl) (by kernel_rfl) rfl (fun w hs => run_move (v := eV ad _ _) rfl) hK ?_ | refine aw_take 0 rfl (by kernel_rfl) (by kernel_rfl) (by kernel_rfl) rfl (fun w hs => run_move (v := .iface _ (.pointer (some _))) rfl) hK ?_ | refine aw_take 0 rfl (by kernel_rfl) (by kernel_rfl) (by kernel_rfl) rfl (fun w hs => run_move (v := flV ad _ _) rfl) hK ?_
            refine @aw_take _ _ _ _ _ _ _ _ _ _ _ _ _ _ 1 _ rfl (by kernel_rfl) (by kernel_rfl) (by kernel_rfl) rfl (fun w hs => run_neF hfp rfl) hK ?_
            first | refine aw_take 2 rfl (by kernel_rfl) (by kernel_rfl) (by kernel_rfl) rfl (fun w hs => run_move (v := .bool _) rfl) hK ?_
            first | refine aw_takeOn 3 rfl (by kernel_rfl) (by kernel_rfl) (by kernel_rfl) rfl rfl rfl (by rw [decide_eq_false hf0]; rfl) (fun w hs => run_move (v := .pointer (some _)) rfl) hK ?_ | refine aw_takeOn 3 rfl (by kernel_rfl) (by kernel_rfl) (by kernel_rfl) rfl rfl rfl (by rw [decide_eq_false hf0]; rfl) (fun w hs => run_move (v := .pointer none) rfl) hK ?_ | refine aw_takeOn 3 rfl (by kernel_rfl) (by kernel_rfl) (by kernel_rfl) rfl rfl rfl (by rw [decide_eq_false hf0]; rfl) (fun w hs => run_move (v := .pointer _) rfl) hK ?_
            first | refine aw_takeOn 5 rfl (by kernel_rfl) (by kernel_rfl) (by kernel_rfl) rfl rfl rfl (by rw [decide_eq_false hf0]; rfl) (fun w hs => run_move (v := .slice _ _ _) rfl) hK ?_
            refine aw_ready [4] (by kernel_rfl) (by simp) ?_
            refine ⟨⟨_, rfl, ?_⟩, trivial⟩
            refine lw_on rfl rfl (by rw [decide_eq_false hf0]; rfl) ?_
            refine lw_call rfl en28 (viewB_sl hE (L := [_, _, _, _, _]) (hs.arr [4, 0, 1, 2, 3, 5] 6 (by decide)) hvl hsm) ?_
            clear hs
            rintro _ w ⟨a86, c86, rfl, hs⟩
            replace hs := hs.arr [0, 2, 3, 4, 5, 1, 6] 7 (by decide)
            clear hK
            have hK := hs.tail.drop 4
            refine lw_nil ⟨hK, ?_⟩
            refine aw_ready [6] (by kernel_rfl) (by simp) ?_
            refine ⟨⟨_, rfl, ?_⟩, trivial⟩
            refine lw_on rfl rfl (by rw [decide_eq_false hf0]; rfl) ?_
            refine lw_call rfl en29 (sameB_sl hs (la := vwB V1) (lb := vwB V1) (Rd.own 0 rfl) (Rd.own 1 rfl) rfl rfl (by rw [vwB, sealL_len]; have := vwBody_len hok hvl; omega)) ?_
            clear hs
            rintro _ w ⟨rfl, hs⟩
            clear hK
            have hK := hs.tail.drop 4
            refine lw_nil ⟨hK, ?_⟩
            first | refine aw_take 7 rfl (by kernel_rfl) (by kernel_rfl) (by kernel_rfl) rfl (fun w hs => run_pickT (v := .bool _) rfl (by rw [decide_eq_false hf0]; rfl) rfl) hK ?_
            first | refine aw_take 8 rfl (by kernel_rfl) (by kernel_rfl) (by kernel_rfl) rfl (fun w hs => run_move (v := .bool _) rfl) hK ?_
            first | refine aw_takeOn 9 rfl (by kernel_rfl) (by kernel_rfl) (by kernel_rfl) rfl rfl rfl (decide_eq_true rfl) (fun w hs => run_move (v := .pointer (some _)) rfl) hK ?_ | refine aw_takeOn 9 rfl (by kernel_rfl) (by kernel_rfl) (by kernel_rfl) rfl rfl rfl (decide_eq_true rfl) (fun w hs => run_move (v := .pointer none) rfl) hK ?_ | refine aw_takeOn 9 rfl (by kernel_rfl) (by kernel_rfl) (by kernel_rfl) rfl rfl rfl (decide_eq_true rfl) (fun w hs => run_move (v := .pointer _) rfl) hK ?_
            first | refine aw_takeOn 10 rfl (by kernel_rfl) (by kernel_rfl) (by kernel_rfl) rfl rfl rfl (decide_eq_true rfl) (fun w hs => run_fieldAddr (o' := 0) Tryd.underlying39 rfl sz3 rfl rfl rfl) hK ?_ | refine aw_takeOn 10 rfl (by kernel_rfl) (by kernel_rfl) (by kernel_rfl) rfl rfl rfl (decide_eq_true rfl) (fun w hs => run_fieldAddr Tryd.underlying39 rfl sz3 rfl rfl rfl) hK ?_
            first | refine aw_takeOn 11 rfl (by kernel_rfl) (by kernel_rfl) (by kernel_rfl) rfl rfl rfl (decide_eq_true rfl) (fun w hs => run_load Tryd.underlying3 rfl rfl (hs.cellAt 0 rfl rfl)) hK ?_ | refine aw_takeOn 11 rfl (by kernel_rfl) (by kernel_rfl) (by kernel_rfl) rfl rfl rfl (decide_eq_true rfl) (fun w hs => run_load Tryd.underlying3 rfl rfl (hs.cellAt 1 rfl rfl)) hK ?_ | refine aw_takeOn 11 rfl (by kernel_rfl) (by kernel_rfl) (by kernel_rfl) rfl rfl rfl (decide_eq_true rfl) (fun w hs => run_load Tryd.underlying3 rfl rfl (hs.cellAt 2 rfl rfl)) hK ?_ | refine aw_takeOn 11 rfl (by kernel_rfl) (by kernel_rfl) (by kernel_rfl) rfl rfl rfl (decide_eq_true rfl) (fun w hs => run_load Tryd.underlying3 rfl rfl (hs.cellAt 3 rfl rfl)) hK ?_ | refine aw_takeOn 11 rfl (by kernel_rfl) (by kernel_rfl) (by kernel_rfl) rfl rfl rfl (decide_eq_true rfl) (fun w hs => run_load Tryd.underlying3 rfl rfl (hs.cellAt 4 rfl rfl)) hK ?_ | refine aw_takeOn 11 rfl (by kernel_rfl) (by kernel_rfl) (by kernel_rfl) rfl rfl rfl (decide_eq_true rfl) (fun w hs => run_load Tryd.underlying3 rfl rfl (hs.cellAt 5 rfl rfl)) hK ?_ | refine aw_takeOn 11 rfl (by kernel_rfl) (by kernel_rfl) (by kernel_rfl) rfl rfl rfl (decide_eq_true rfl) (fun w hs => run_load Tryd.underlying3 rfl rfl (hs.cellAt 6 rfl rfl)) hK ?_ | refine aw_takeOn 11 rfl (by kernel_rfl) (by kernel_rfl) (by kernel_rfl) rfl rfl rfl (decide_eq_true rfl) (fun w hs => run_load Tryd.underlying3 rfl rfl (hs.cellAt 7 rfl rfl)) hK ?_ | refine aw_takeOn 11 rfl (by kernel_rfl) (by kernel_rfl) (by kernel_rfl) rfl rfl rfl (decide_eq_true rfl) (fun w hs => run_load Tryd.underlying3 rfl rfl (hs.cellAt 8 rfl rfl)) hK ?_ | refine aw_takeOn 11 rfl (by kernel_rfl) (by kernel_rfl) (by kernel_rfl) rfl rfl rfl (decide_eq_true rfl) (fun w hs => run_load Tryd.underlying3 rfl rfl (hs.cellAt 9 rfl rfl)) hK ?_ | refine aw_takeOn 11 rfl (by kernel_rfl) (by kernel_rfl) (by kernel_rfl) rfl rfl rfl (decide_eq_true rfl) (fun w hs => run_load Tryd.underlying3 rfl rfl (hs.cellAt 10 rfl rfl)) hK ?_ | refine aw_takeOn 11 rfl (by kernel_rfl) (by kernel_rfl) (by kernel_rfl) rfl rfl rfl (decide_eq_true rfl) (fun w hs => run_load Tryd.underlying3 rfl rfl (hs.cellAt 11 rfl rfl)) hK ?_ | refine aw_takeOn 11 rfl (by kernel_rfl) (by kernel_rfl) (by kernel_rfl) rfl rfl rfl (decide_eq_true rfl) (fun w hs => run_load Tryd.underlying3 rfl rfl (hs.cellAt 12 rfl rfl)) hK ?_ | refine aw_takeOn 11 rfl (by kernel_rfl) (by kernel_rfl) (by kernel_rfl) rfl rfl rfl (decide_eq_true rfl) (fun w hs => run_load Tryd.underlying3 rfl rfl (hs.cellAt 13 rfl rfl)) hK ?_
            refine aw_ready [12] (by kernel_rfl) (by simp) ?_
            refine ⟨⟨_, rfl, ?_⟩, trivial⟩
            refine lw_on rfl rfl (decide_eq_true rfl) ?_
            refine lw_call rfl en16 (state_sl (L := [_, _, _, _, _, _]) (hs.arr [5, 0, 1, 2, 3, 4, 6] 7 (by decide)) m.id) ?_
            clear hs
            rintro _ w ⟨rfl, hs⟩
            replace hs := hs.arr [1, 2, 3, 4, 5, 0, 6] 7 (by decide)
            clear hK
            have hK := hs.tail.drop 4
            refine lw_nil ⟨hK, ?_⟩
            refine aw_takeOn 13 rfl (by kernel_rfl) (by kernel_rfl) (by kernel_rfl) rfl rfl rfl (decide_eq_true rfl) (fun w hs => run_eqi rfl rfl) hK ?_
            first | refine aw_take 14 rfl (by kernel_rfl) (by kernel_rfl) (by kernel_rfl) rfl (fun w hs => run_pickT (v := .bool _) rfl (decide_eq_true rfl) rfl) hK ?_
            first | refine aw_take 15 rfl (by kernel_rfl) (by kernel_rfl) (by kernel_rfl) rfl (fun w hs => run_move (v := .bool _) rfl) hK ?_
            first | refine aw_takeOn 16 rfl (by kernel_rfl) (by kernel_rfl) (by kernel_rfl) rfl rfl rfl (decide_eq_true hst1) (fun w hs => run_move (v := .pointer (some _)) rfl) hK ?_ | refine aw_takeOn 16 rfl (by kernel_rfl) (by kernel_rfl) (by kernel_rfl) rfl rfl rfl (decide_eq_true hst1) (fun w hs => run_move (v := .pointer none) rfl) hK ?_ | refine aw_takeOn 16 rfl (by kernel_rfl) (by kernel_rfl) (by kernel_rfl) rfl rfl rfl (decide_eq_true hst1) (fun w hs => run_move (v := .pointer _) rfl) hK ?_
            first | refine aw_takeOn 17 rfl (by kernel_rfl) (by kernel_rfl) (by kernel_rfl) rfl rfl rfl (decide_eq_true hst1) (fun w hs => run_move (v := .int .i64 _) rfl) hK ?_
            first | refine aw_takeOn 20 rfl (by kernel_rfl) (by kernel_rfl) (by kernel_rfl) rfl rfl rfl (decide_eq_true hst1) (fun w hs => run_loadRow hs 0 rfl Tryd.underlying39 sz39 rfl) hK ?_ | refine aw_takeOn 20 rfl (by kernel_rfl) (by kernel_rfl) (by kernel_rfl) rfl rfl rfl (decide_eq_true hst1) (fun w hs => run_loadRow hs 1 rfl Tryd.underlying39 sz39 rfl) hK ?_ | refine aw_takeOn 20 rfl (by kernel_rfl) (by kernel_rfl) (by kernel_rfl) rfl rfl rfl (decide_eq_true hst1) (fun w hs => run_loadRow hs 2 rfl Tryd.underlying39 sz39 rfl) hK ?_ | refine aw_takeOn 20 rfl (by kernel_rfl) (by kernel_rfl) (by kernel_rfl) rfl rfl rfl (decide_eq_true hst1) (fun w hs => run_loadRow hs 3 rfl Tryd.underlying39 sz39 rfl) hK ?_ | refine aw_takeOn 20 rfl (by kernel_rfl) (by kernel_rfl) (by kernel_rfl) rfl rfl rfl (decide_eq_true hst1) (fun w hs => run_loadRow hs 4 rfl Tryd.underlying39 sz39 rfl) hK ?_ | refine aw_takeOn 20 rfl (by kernel_rfl) (by kernel_rfl) (by kernel_rfl) rfl rfl rfl (decide_eq_true hst1) (fun w hs => run_loadRow hs 5 rfl Tryd.underlying39 sz39 rfl) hK ?_ | refine aw_takeOn 20 rfl (by kernel_rfl) (by kernel_rfl) (by kernel_rfl) rfl rfl rfl (decide_eq_true hst1) (fun w hs => run_loadRow hs 6 rfl Tryd.underlying39 sz39 rfl) hK ?_ | refine aw_takeOn 20 rfl (by kernel_rfl) (by kernel_rfl) (by kernel_rfl) rfl rfl rfl (decide_eq_true hst1) (fun w hs => run_loadRow hs 7 rfl Tryd.underlying39 sz39 rfl) hK ?_ | refine aw_takeOn 20 rfl (by kernel_rfl) (by kernel_rfl) (by kernel_rfl) rfl rfl rfl (decide_eq_true hst1) (fun w hs => run_loadRow hs 8 rfl Tryd.underlying39 sz39 rfl) hK ?_ | refine aw_takeOn 20 rfl (by kernel_rfl) (by kernel_rfl) (by kernel_rfl) rfl rfl rfl (decide_eq_true hst1) (fun w hs => run_loadRow hs 9 rfl Tryd.underlying39 sz39 rfl) hK ?_ | refine aw_takeOn 20 rfl (by kernel_rfl) (by kernel_rfl) (by kernel_rfl) rfl rfl rfl (decide_eq_true hst1) (fun w hs => run_loadRow hs 10 rfl Tryd.underlying39 sz39 rfl) hK ?_ | refine aw_takeOn 20 rfl (by kernel_rfl) (by kernel_rfl) (by kernel_rfl) rfl rfl rfl (decide_eq_true hst1) (fun w hs => run_loadRow hs 11 rfl Tryd.underlying39 sz39 rfl) hK ?_ | refine aw_takeOn 20 rfl (by kernel_rfl) (by kernel_rfl) (by kernel_rfl) rfl rfl rfl (decide_eq_true hst1) (fun w hs => run_loadRow hs 12 rfl Tryd.underlying39 sz39 rfl) hK ?_ | refine aw_takeOn 20 rfl (by kernel_rfl) (by kernel_rfl) (by kernel_rfl) rfl rfl rfl (decide_eq_true hst1) (fun w hs => run_loadRow hs 13 rfl Tryd.underlying39 sz39 rfl) hK ?_
            refine aw_ready [18] (by kernel_rfl) (by simp) ?_
            refine ⟨⟨_, rfl, ?_⟩, trivial⟩
            refine lw_on rfl rfl (decide_eq_true hst1) ?_
            refine lw_call rfl en14 (numberE_sl hs kd 2 (by decide)) ?_
            clear hs
            rintro _ w ⟨rfl, hs⟩
            rw [← hkv]
            clear hK
            have hK := hs.tail.drop 4
            refine lw_nil ⟨hK, ?_⟩
            refine aw_takeOn 19 rfl (by kernel_rfl) (by kernel_rfl) (by kernel_rfl) rfl rfl rfl (decide_eq_true hst1) (fun w hs => run_add64 rfl rfl (c := (kv : Int) + 2) rfl (inI (by omega) (by omega))) hK ?_
            refine @aw_takeOn _ _ _ _ _ _ _ _ _ _ _ _ _ _ 21 _ _ _ _ _ rfl (by kernel_rfl) (by kernel_rfl) (by kernel_rfl) rfl rfl rfl (decide_eq_true hst1) (fun w hs => run_buildKM (k := (kv : Int) + 2) (m := m) (e := e) (o := o) Tryd.underlying52 ze52 pl52 rfl rfl) hK ?_
            refine aw_ready [22] (by kernel_rfl) (by simp) ?_
            refine ⟨⟨_, rfl, ?_⟩, trivial⟩
            refine lw_on rfl rfl (decide_eq_true hst1) ?_
            refine lw_call rfl en23 (apply_sl hE (L := [_, _, _, _, _, _]) (hs.arr [5, 0, 1, 2, 3, 4, 6] 7 (by decide)) ((kv : Int) + 2) (hm _) (by omega)) ?_
            clear hs
            rintro _ w ⟨eb3, rfl, hs⟩
            rw [hgood] at hs ⊢
            rw [flV_bare]
            clear hK
            have hK := hs.arr [3, 4, 5, 6, 7] 8 (by decide)
            refine lw_nil ⟨hK, ?_⟩
            first | refine aw_takeOn 23 rfl (by kernel_rfl) (by kernel_rfl) (by kernel_rfl) rfl rfl rfl (decide_eq_true hst1) (fun w hs => run_eqerrn (ad := ad) rfl) hK ?_ | refine aw_takeOn 23 rfl (by kernel_rfl) (by kernel_rfl) (by kernel_rfl) rfl rfl rfl (decide_eq_true hst1) (fun w hs => run_eqnn rfl) hK ?_ | refine aw_takeOn 23 rfl (by kernel_rfl) (by kernel_rfl) (by kernel_rfl) rfl rfl rfl (decide_eq_true hst1) (fun w hs => run_eqE (ad := ad) rfl) hK ?_
            first | refine aw_take 24 rfl (by kernel_rfl) (by kernel_rfl) (by kernel_rfl) rfl (fun w hs => run_pickT (v := .bool _) rfl (decide_eq_true hst1) rfl) hK ?_
            first | refine aw_take 25 rfl (by kernel_rfl) (by kernel_rfl) (by kernel_rfl) rfl (fun w hs => run_assign (v := .bool _) rfl) hK ?_
            refine aw_done (by kernel_rfl) ?_
            clear hK
            refine cw_ret ?_
            refine res1 (v := .bool _) rfl rfl ?_
            exact ⟨_, rfl, rfl, hs.nil⟩
end Go.Proofs.YtkogkokmcmallaaDoor
