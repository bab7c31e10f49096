/- The law ViewNext: the next ID is above all that there ever were; what is listed rises. -/
import Derived.Test.YtkogkokmcmallaaDoorLV
namespace Go.Proofs.YtkogkokmcmallaaDoor
set_option linter.all false
open Go.RowKit
attribute [local irreducible] errV
variable {g w : World} {L M : List HP} {ad : Nat → Addr} {p : Nat} {V : Vw}

def bN (id : Nat) : Nat := 1000 - 10 * id
theorem OnV.top {b : Nat → Nat} {N : Nat} (h : OnV b N V) : 0 ≤ V.top ∧ V.top ≤ N := by
  have hk : ∀ k ∈ keysOf V, 0 ≤ k ∧ k < N := fun k hk => by
    obtain ⟨i, hi⟩ := al_of_key hk
    obtain ⟨id, h1, rfl, _⟩ := h.all _ _ hi
    omega
  rcases Vw.top_in V (fun k h => (hk k h).1) with ⟨h1, _⟩ | ⟨k, h1, h2⟩
  · omega
  · have := hk k h1; omega
theorem OnV.fresh {b : Nat → Nat} {N : Nat} (h : OnV b N V) {id : Nat} (hn : nextB (V.state id) 1 = true) : aget V (id : Int) = none := h.state (by simpa [nextB] using hn)
theorem top_put {i j : Itm} {id : Nat} (h : aget V (id : Int) = none) : Vw.top (aput V (id : Int) i) = max V.top (id + 1) ∧ (aput V (id : Int) i).length = V.length + 1 := by
  rw [al_end h]
  exact ⟨Vw.top_app V (by omega), by simp⟩
theorem top_again {i : Itm} {id : Nat} {u : Itm} (h : aget V (id : Int) = some u) : Vw.top (aput V (id : Int) i) = V.top ∧ (aput V (id : Int) i).length = V.length :=
  ⟨Vw.top_keys (by rw [keys_put, if_pos (al_key h)]), al_len h⟩
theorem state_put (V : Vw) (id : Nat) (i : Itm) : Vw.state (aput V (id : Int) i) (id : Int) = i.st := by simp [Vw.state, aget_put_same]
theorem t3L_at {ts : List T3} {k : Nat} {t : T3} (h : ts[k]? = some t) : (ts.map t3L)[k]? = some (t3L t) := by simp [h]
theorem t3M_at {ts : List T3} {k : Nat} {t : T3} (h : ts[k]? = some t) : (ts.map (·.1))[k]? = some t.1 := by simp [h]
theorem bN_falls : ∀ i j, i < 50 → j < 50 → i < j → bN j < bN i := fun i j h1 h2 h3 => by simp only [bN]; omega
set_option maxHeartbeats 4000000 in
set_option maxRecDepth 10000 in
theorem viewNext_sl (hA : ErrA ad g) (hs : Mem g w []) {a0 : Option Addr} {n0 c0 : Nat} {l : List Int} (h0 : Came g (.slice a0 n0 c0) (intsL l)) (e0 : n0 = l.length) : Calls Tryd.prog 5 #[.slice a0 n0 c0] w (Ret fun v w' => v = .bool true ∧ Mem g w' []) := by
  subst e0
  have hE : ErrV ad g := hA.view
  refine calls_cw Tryd.func5 rfl rfl ?_
  skip
  refine cw_seq ?_
  refine cw_region ?_
  first | refine lw_val rfl (run_assign (v := .bool _) rfl) ?_
  refine lw_nil ?_
  refine cw_seq ?_
  refine cw_region ?_
  refine lw_call rfl en19 (first16_sl hA hs) ?_
  clear hs
  rintro _ w ⟨rfl, hs⟩
  first | refine lw_val rfl (run_assign (v := .bool _) rfl) ?_
  refine lw_nil ?_
  refine cw_seq ?_
  refine cw_seq ?_
  refine cw_region ?_
  first | refine lw_val rfl (run_move (v := .bool _) rfl) ?_
  refine lw_val rfl (run_not rfl) ?_
  refine lw_nil ?_
  refine cw_iff rfl (not_f (rfl)) ?_
  refine cw_skip ?_
  refine cw_seq ?_
  refine cw_seq ?_
  refine cw_region ?_
  first | refine lw_val rfl (run_move (v := .slice _ _ _) rfl) ?_
  refine lw_val rfl (run_lenS Tryd.underlying22 rfl) ?_
  refine lw_val rfl (run_gtr rfl rfl) ?_
  first | refine lw_val rfl (run_move (v := .bool _) rfl) ?_
  refine lw_split (t := _) (d := 19) rfl ?_ ?_
  · intro h18
    have g18 := of_decide_eq_true h18
    refine lw_off rfl rfl rfl h18 ?_
    refine lw_off rfl rfl rfl h18 ?_
    first | refine lw_val rfl (run_pickT (v := .bool _) rfl h18 rfl) ?_
    refine lw_nil ?_
    refine cw_ift rfl rfl ?_
    refine cw_seq ?_
    refine cw_region ?_
    first | refine lw_val rfl (run_move (v := .bool _) rfl) ?_
    first | refine lw_val rfl (run_assign (v := .bool _) rfl) ?_
    refine lw_nil ?_
    refine cw_ret ?_
    refine res1 (v := .bool _) rfl rfl ?_
    exact ⟨_, rfl, rfl, hs⟩
  · intro h18
    have g18 := of_decide_eq_false h18
    refine lw_on rfl rfl h18 ?_
    first | refine lw_val rfl (run_move (v := .bool _) rfl) ?_
    refine lw_on rfl rfl h18 ?_
    refine lw_val rfl (run_not rfl) ?_
    first | refine lw_val rfl (run_pickF (v := .bool _) rfl h18 rfl) ?_
    refine lw_nil ?_
    refine cw_iff rfl (not_f (rfl)) ?_
    refine cw_skip ?_
    refine cw_seq ?_
    refine cw_region ?_
    refine lw_call rfl en20 (newv_sl hs) ?_
    clear hs
    rintro _ w ⟨p, rfl, hs⟩
    first | refine lw_val rfl (run_assign (v := .pointer (some _)) rfl) ?_ | refine lw_val rfl (run_assign (v := .pointer none) rfl) ?_ | refine lw_val rfl (run_assign (v := .pointer _) rfl) ?_
    refine lw_nil ?_
    refine cw_seq ?_
    refine cw_seq ?_
    refine cw_region ?_
    first | refine lw_val rfl (run_move (v := .pointer (some _)) rfl) ?_ | refine lw_val rfl (run_move (v := .pointer none) rfl) ?_ | refine lw_val rfl (run_move (v := .pointer _) rfl) ?_
    refine lw_val rfl (run_eqpn Tryd.underlying25 rfl rfl) ?_
    first | refine lw_val rfl (run_move (v := .bool _) rfl) ?_
    refine lw_on rfl rfl (rfl) ?_
    first | refine lw_val rfl (run_move (v := .pointer (some _)) rfl) ?_ | refine lw_val rfl (run_move (v := .pointer none) rfl) ?_ | refine lw_val rfl (run_move (v := .pointer _) rfl) ?_
    refine lw_on rfl rfl (rfl) ?_
    refine lw_call rfl en21 (nextV_sl hs) ?_
    clear hs
    rintro _ w ⟨rfl, hs⟩
    refine lw_on rfl rfl (rfl) ?_
    refine lw_val rfl (run_nei rfl rfl) ?_
    first | refine lw_val rfl (run_pickF (v := .bool _) rfl (rfl) rfl) ?_
    refine lw_nil ?_
    refine cw_iff rfl (rfl) ?_
    refine cw_skip ?_
    refine cw_seq ?_
    refine cw_region ?_
    first | refine lw_val rfl (run_assign (v := .int .i64 _) rfl) ?_
    refine lw_nil ?_
    refine cw_seq ?_
    refine cw_region ?_
    first | refine lw_val rfl (run_assign (v := .int .i64 _) rfl) ?_
    refine lw_nil ?_
    refine cw_seq ?_
    refine cw_seq ?_
    refine cw_region ?_
    first | refine lw_val rfl (run_assign (v := .int .i64 _) rfl) ?_
    refine lw_nil ?_
    refine cw_block ?_
    refine cw_loop (X := Nat × Vw) [2, 5, 6, 7, 8, 9, 10, 32, 33, 34, 35, 36, 37, 38, 39, 40, 41, 42, 43, 44, 45, 46, 47, 48, 49, 50, 51, 52, 53, 54, 55, 56, 57, 58, 59, 60, 61, 62, 63, 64, 65, 66, 67, 68, 69, 70, 71, 72, 73, 74, 75, 76, 77, 78, 79, 80, 81, 82, 83, 84, 85, 86] (fun q => [(5, .int .i64 q.2.top), (6, .int .i64 (q.2.length : Nat)), (7, .int .i64 (q.1 : Nat))]) (fun q w => q.1 ≤ l.length ∧ q.2.length ≤ q.1 ∧ OnV bN 50 q.2 ∧ Mem g w [ViewC p q.2]) (fun q => l.length - q.1) ((0, [])) ?_ ?_ ?_
    · exact ⟨rfl, rfl, rfl, trivial⟩
    · exact ⟨Nat.zero_le _, Nat.le_refl _, OnV.nil, hs⟩
    clear hs
    rintro x ξ w hI
    obtain ⟨k, V⟩ := x
    obtain ⟨hk, hVl, hO, hs⟩ := hI
    simp only at hk hVl hO hs
    show cw _ _ _ _ _ _ (updL (mix _ ξ _) [(5, .int .i64 V.top), (6, .int .i64 (V.length : Nat)), (7, .int .i64 (k : Nat))]) w
    refine cw_seq ?_
    refine cw_seq ?_
    refine cw_region ?_
    first | refine lw_val rfl (run_move (v := .int .i64 _) rfl) ?_
    first | refine lw_val rfl (run_move (v := .slice _ _ _) rfl) ?_
    refine lw_val rfl (run_lenS Tryd.underlying22 rfl) ?_
    refine lw_val rfl (run_lss rfl rfl) ?_
    refine lw_nil ?_
    refine cw_if rfl ?_ ?_
    · intro h35
      have g35 := of_decide_eq_true h35
      obtain ⟨z, hz⟩ : ∃ z, l[k]? = some z := ⟨_, List.getElem?_eq_getElem (by omega)⟩
      obtain ⟨b1, o1, rfl, _⟩ := (h0.rd _).cells' hs (by rw [intsL_len]; omega)
      obtain ⟨id, hid⟩ : ∃ id, id = (z % ((50 : Nat) : Int)).toNat := ⟨_, rfl⟩
      have hid50 : id < 50 := by have := Int.emod_lt_of_pos z (show (0 : Int) < (50 : Nat) by decide); have := Int.emod_nonneg z (show ((50 : Nat) : Int) ≠ 0 by decide); omega
      have hap := fun (V : Vw) (h : OnV bN 50 V) (k : Int) => h.apply hid50 (by decide) (one16 id hid50) (k := k)
      have htop := hO.top
      refine cw_skip ?_
      refine cw_seq ?_
      refine cw_block ?_
      refine cw_seq ?_
      refine cw_region ?_
      first | refine lw_val rfl (run_move (v := .slice _ _ _) rfl) ?_
      first | refine lw_val rfl (run_move (v := .int .i64 _) rfl) ?_
      refine lw_val rfl (run_indexAddr Tryd.underlying22 sz3 rfl rfl rfl (by omega) rfl) ?_
      refine lw_val rfl (run_load Tryd.underlying3 rfl rfl ((h0.rd _).cellAt hs (intsL_at hz))) ?_
      refine lw_call rfl en14 (numberE_sl hs z 50 (by decide)) ?_
      clear hs
      rintro _ w ⟨rfl, hs⟩
      rw [← hid]
      first | refine lw_val rfl (run_assign (v := .int .i64 _) rfl) ?_
      refine lw_nil ?_
      refine cw_seq ?_
      refine cw_region ?_
      first | refine lw_val rfl (run_move (v := .int .i64 _) rfl) ?_
      first | refine lw_val rfl (run_move (v := .int .i64 _) rfl) ?_
      refine lw_val rfl (run_mul64 rfl rfl (c := ((10 * id : Nat) : Int)) (by omega) (inI (by omega) (by omega))) ?_
      refine lw_val rfl (run_sub64 rfl rfl (c := ((1000 - 10 * id : Nat) : Int)) (by omega) (inI (by omega) (by omega))) ?_
      refine lw_call rfl en22 (one16_sl hs id (1000 - 10 * id) (by omega) (by omega) (one16 id hid50)) ?_
      clear hs
      rintro _ w ⟨s1, s2, rfl, hs⟩
      refine lw_alloc hs rfl ze39 ?_
      clear hs
      intro b9 w hs
      try simp only [List.set_cons_succ, List.set_cons_zero] at hs
      first | refine lw_storeRow hs 0 rfl rfl rfl sz39 rfl rfl ?_ | refine lw_storeRow hs 1 rfl rfl rfl sz39 rfl rfl ?_ | refine lw_storeRow hs 2 rfl rfl rfl sz39 rfl rfl ?_ | refine lw_storeRow hs 3 rfl rfl rfl sz39 rfl rfl ?_ | refine lw_storeRow hs 4 rfl rfl rfl sz39 rfl rfl ?_ | refine lw_storeRow hs 5 rfl rfl rfl sz39 rfl rfl ?_ | refine lw_storeRow hs 6 rfl rfl rfl sz39 rfl rfl ?_ | refine lw_storeRow hs 7 rfl rfl rfl sz39 rfl rfl ?_ | refine lw_storeRow hs 8 rfl rfl rfl sz39 rfl rfl ?_ | refine lw_storeRow hs 9 rfl rfl rfl sz39 rfl rfl ?_ | refine lw_storeRow hs 10 rfl rfl rfl sz39 rfl rfl ?_ | refine lw_storeRow hs 11 rfl rfl rfl sz39 rfl rfl ?_ | refine lw_storeRow hs 12 rfl rfl rfl sz39 rfl rfl ?_ | refine lw_storeRow hs 13 rfl rfl rfl sz39 rfl rfl ?_
      clear hs
      intro w hs
      try simp only [List.set_cons_succ, List.set_cons_zero] at hs
      refine lw_nil ?_
      refine cw_seq ?_
      obtain hnb | hnb : nextB (V.state (id : Int)) 1 = true ∨ nextB (V.state (id : Int)) 1 = false := by cases nextB (V.state (id : Int)) 1 <;> simp
      · skip
        refine cw_region ?_
        first | refine lw_val rfl (run_move (v := .pointer (some _)) rfl) ?_ | refine lw_val rfl (run_move (v := .pointer none) rfl) ?_ | refine lw_val rfl (run_move (v := .pointer _) rfl) ?_
        first | refine lw_val rfl (run_loadRow hs 0 rfl Tryd.underlying39 sz39 rfl) ?_ | refine lw_val rfl (run_loadRow hs 1 rfl Tryd.underlying39 sz39 rfl) ?_ | refine lw_val rfl (run_loadRow hs 2 rfl Tryd.underlying39 sz39 rfl) ?_ | refine lw_val rfl (run_loadRow hs 3 rfl Tryd.underlying39 sz39 rfl) ?_ | refine lw_val rfl (run_loadRow hs 4 rfl Tryd.underlying39 sz39 rfl) ?_ | refine lw_val rfl (run_loadRow hs 5 rfl Tryd.underlying39 sz39 rfl) ?_ | refine lw_val rfl (run_loadRow hs 6 rfl Tryd.underlying39 sz39 rfl) ?_ | refine lw_val rfl (run_loadRow hs 7 rfl Tryd.underlying39 sz39 rfl) ?_ | refine lw_val rfl (run_loadRow hs 8 rfl Tryd.underlying39 sz39 rfl) ?_ | refine lw_val rfl (run_loadRow hs 9 rfl Tryd.underlying39 sz39 rfl) ?_ | refine lw_val rfl (run_loadRow hs 10 rfl Tryd.underlying39 sz39 rfl) ?_ | refine lw_val rfl (run_loadRow hs 11 rfl Tryd.underlying39 sz39 rfl) ?_ | refine lw_val rfl (run_loadRow hs 12 rfl Tryd.underlying39 sz39 rfl) ?_ | refine lw_val rfl (run_loadRow hs 13 rfl Tryd.underlying39 sz39 rfl) ?_
        refine lw_val rfl (run_buildKM (k := 1) (m := oneM id (1000 - 10 * id)) (e := s1) (o := s2) Tryd.underlying52 ze52 pl52 rfl rfl) ?_
        refine lw_call rfl en23 (applyB_sl hE hs (i := 3) rfl 1 (x := oneM id (1000 - 10 * id)) (s1 := s1) (s2 := s2) (MfR.own 1 2 rfl rfl) (by simp [oneM]) ((hap V hO 1 (by omega)).trans (if_pos hnb))) ?_
        clear hs
        rintro _ w ⟨rfl, hs⟩
        have hfr := hO.fresh hnb
        have hO1 := hO.put hid50 (s := 1) (by omega)
        have ht1 := top_put (i := ⟨1, oneM id (bN id)⟩) (j := ⟨1, oneM id (bN id)⟩) hfr
        first | refine lw_val rfl (run_assign (v := errV ad _) rfl) ?_ | refine lw_val rfl (run_assign (v := .nilIface) rfl) ?_ | refine lw_val rfl (run_assign (v := eV ad _ _) rfl) ?_ | refine lw_val rfl (run_assign (v := .iface _ (.pointer (some _))) rfl) ?_ | refine lw_val rfl (run_assign (v := flV ad _ _) rfl) ?_
        refine lw_nil ?_
        refine cw_seq ?_
        refine cw_seq ?_
        refine cw_region ?_
        first | refine lw_val rfl (run_move (v := errV ad _) rfl) ?_ | refine lw_val rfl (run_move (v := .nilIface) rfl) ?_ | refine lw_val rfl (run_move (v := eV ad _ _) rfl) ?_ | refine lw_val rfl (run_move (v := .iface _ (.pointer (some _))) rfl) ?_ | refine lw_val rfl (run_move (v := flV ad _ _) rfl) ?_
        first | refine lw_val rfl (run_eqerrn (ad := ad) rfl) ?_ | refine lw_val rfl (run_eqnn rfl) ?_ | refine lw_val rfl (run_eqE (ad := ad) rfl) ?_
        refine lw_nil ?_
        refine cw_ift rfl (rfl) ?_
        refine cw_seq ?_
        refine cw_region ?_
        first | refine lw_val rfl (run_move (v := .int .i64 _) rfl) ?_
        refine lw_val rfl (run_add64 rfl rfl rfl (inI (by omega) (by omega))) ?_
        first | refine lw_val rfl (run_assign (v := .int .i64 _) rfl) ?_
        refine lw_nil ?_
        refine cw_seq ?_
        refine cw_region ?_
        first | refine lw_val rfl (run_move (v := .int .i64 _) rfl) ?_
        first | refine lw_val rfl (run_move (v := .int .i64 _) rfl) ?_
        refine lw_val rfl (run_add64 rfl rfl (c := (id : Int) + 1) rfl (inI (by omega) (by omega))) ?_
        refine lw_val rfl (run_max rfl rfl) ?_
        first | refine lw_val rfl (run_assign (v := .int .i64 _) rfl) ?_
        refine lw_nil ?_
        refine cw_seq ?_
        refine cw_region ?_
        first | refine lw_val rfl (run_move (v := .slice _ _ _) rfl) ?_
        first | refine lw_val rfl (run_move (v := .int .i64 _) rfl) ?_
        refine lw_val rfl (run_indexAddr Tryd.underlying22 sz3 rfl rfl rfl (by omega) rfl) ?_
        refine lw_val rfl (run_load Tryd.underlying3 rfl rfl ((h0.rd _).cellAt hs (intsL_at hz))) ?_
        refine lw_val rfl (run_rem rfl rfl (by decide)) ?_
        refine lw_val rfl (run_eqi rfl rfl) ?_
        first | refine lw_val rfl (run_move (v := .bool _) rfl) ?_
        refine lw_split (t := _) (d := 66) rfl ?_ ?_
        · intro h65
          have g65 := of_decide_eq_true h65
          refine lw_on rfl rfl h65 ?_
          first | refine lw_val rfl (run_move (v := .pointer (some _)) rfl) ?_ | refine lw_val rfl (run_move (v := .pointer none) rfl) ?_ | refine lw_val rfl (run_move (v := .pointer _) rfl) ?_
          refine lw_on rfl rfl h65 ?_
          first | refine lw_val rfl (run_loadRow hs 0 rfl Tryd.underlying39 sz39 rfl) ?_ | refine lw_val rfl (run_loadRow hs 1 rfl Tryd.underlying39 sz39 rfl) ?_ | refine lw_val rfl (run_loadRow hs 2 rfl Tryd.underlying39 sz39 rfl) ?_ | refine lw_val rfl (run_loadRow hs 3 rfl Tryd.underlying39 sz39 rfl) ?_ | refine lw_val rfl (run_loadRow hs 4 rfl Tryd.underlying39 sz39 rfl) ?_ | refine lw_val rfl (run_loadRow hs 5 rfl Tryd.underlying39 sz39 rfl) ?_ | refine lw_val rfl (run_loadRow hs 6 rfl Tryd.underlying39 sz39 rfl) ?_ | refine lw_val rfl (run_loadRow hs 7 rfl Tryd.underlying39 sz39 rfl) ?_ | refine lw_val rfl (run_loadRow hs 8 rfl Tryd.underlying39 sz39 rfl) ?_ | refine lw_val rfl (run_loadRow hs 9 rfl Tryd.underlying39 sz39 rfl) ?_ | refine lw_val rfl (run_loadRow hs 10 rfl Tryd.underlying39 sz39 rfl) ?_ | refine lw_val rfl (run_loadRow hs 11 rfl Tryd.underlying39 sz39 rfl) ?_ | refine lw_val rfl (run_loadRow hs 12 rfl Tryd.underlying39 sz39 rfl) ?_ | refine lw_val rfl (run_loadRow hs 13 rfl Tryd.underlying39 sz39 rfl) ?_
          refine lw_on rfl rfl h65 ?_
          refine lw_val rfl (run_buildKM (k := 3) (m := oneM id (1000 - 10 * id)) (e := s1) (o := s2) Tryd.underlying52 ze52 pl52 rfl rfl) ?_
          refine lw_on rfl rfl h65 ?_
          refine lw_call rfl en23 (applyB_sl hE hs (i := 0) rfl 3 (x := oneM id (1000 - 10 * id)) (s1 := s1) (s2 := s2) (MfR.own 1 2 rfl rfl) (by simp [oneM]) ((hap _ hO1 3 (by omega)).trans (if_pos (by rw [state_put]; rfl)))) ?_
          clear hs
          rintro _ w ⟨rfl, hs⟩
          have hO2 := hO1.put hid50 (s := 3) (by omega)
          have ht2 := top_again (i := ⟨3, oneM id (bN id)⟩) (aget_put_same V (id : Int) ⟨1, oneM id (bN id)⟩)
          refine lw_on rfl rfl h65 ?_
          first | refine lw_val rfl (run_neerrn (ad := ad) rfl) ?_ | refine lw_val rfl (run_nenn rfl) ?_ | refine lw_val rfl (run_neE (ad := ad) rfl) ?_
          refine lw_on rfl rfl h65 ?_
          first | refine lw_val rfl (run_move (v := .bool _) rfl) ?_
          refine lw_on rfl rfl (rfl) ?_
          first | refine lw_val rfl (run_move (v := .pointer (some _)) rfl) ?_ | refine lw_val rfl (run_move (v := .pointer none) rfl) ?_ | refine lw_val rfl (run_move (v := .pointer _) rfl) ?_
          refine lw_on rfl rfl (rfl) ?_
          first | refine lw_val rfl (run_loadRow hs 0 rfl Tryd.underlying39 sz39 rfl) ?_ | refine lw_val rfl (run_loadRow hs 1 rfl Tryd.underlying39 sz39 rfl) ?_ | refine lw_val rfl (run_loadRow hs 2 rfl Tryd.underlying39 sz39 rfl) ?_ | refine lw_val rfl (run_loadRow hs 3 rfl Tryd.underlying39 sz39 rfl) ?_ | refine lw_val rfl (run_loadRow hs 4 rfl Tryd.underlying39 sz39 rfl) ?_ | refine lw_val rfl (run_loadRow hs 5 rfl Tryd.underlying39 sz39 rfl) ?_ | refine lw_val rfl (run_loadRow hs 6 rfl Tryd.underlying39 sz39 rfl) ?_ | refine lw_val rfl (run_loadRow hs 7 rfl Tryd.underlying39 sz39 rfl) ?_ | refine lw_val rfl (run_loadRow hs 8 rfl Tryd.underlying39 sz39 rfl) ?_ | refine lw_val rfl (run_loadRow hs 9 rfl Tryd.underlying39 sz39 rfl) ?_ | refine lw_val rfl (run_loadRow hs 10 rfl Tryd.underlying39 sz39 rfl) ?_ | refine lw_val rfl (run_loadRow hs 11 rfl Tryd.underlying39 sz39 rfl) ?_ | refine lw_val rfl (run_loadRow hs 12 rfl Tryd.underlying39 sz39 rfl) ?_ | refine lw_val rfl (run_loadRow hs 13 rfl Tryd.underlying39 sz39 rfl) ?_
          refine lw_on rfl rfl (rfl) ?_
          refine lw_val rfl (run_buildKM (k := 4) (m := oneM id (1000 - 10 * id)) (e := s1) (o := s2) Tryd.underlying52 ze52 pl52 rfl rfl) ?_
          refine lw_on rfl rfl (rfl) ?_
          refine lw_call rfl en23 (applyB_sl hE hs (i := 0) rfl 4 (x := oneM id (1000 - 10 * id)) (s1 := s1) (s2 := s2) (MfR.own 1 2 rfl rfl) (by simp [oneM]) ((hap _ hO2 4 (by omega)).trans (if_pos (by rw [state_put]; rfl)))) ?_
          clear hs
          rintro _ w ⟨rfl, hs⟩
          have hO3 := hO2.put hid50 (s := 4) (by omega)
          have ht3 := top_again (i := ⟨4, oneM id (bN id)⟩) (aget_put_same (aput V (id : Int) ⟨1, oneM id (bN id)⟩) (id : Int) ⟨3, oneM id (bN id)⟩)
          refine lw_on rfl rfl (rfl) ?_
          first | refine lw_val rfl (run_neerrn (ad := ad) rfl) ?_ | refine lw_val rfl (run_nenn rfl) ?_ | refine lw_val rfl (run_neE (ad := ad) rfl) ?_
          refine lw_on rfl rfl h65 ?_
          first | refine lw_val rfl (run_pickF (v := .bool _) rfl (rfl) rfl) ?_
          first | refine lw_val rfl (run_pickT (v := .bool _) rfl h65 rfl) ?_
          refine lw_nil ?_
          refine cw_iff rfl (rfl) ?_
          refine cw_skip ?_
          refine cw_seq ?_
          refine cw_region ?_
          first | refine lw_val rfl (run_move (v := .pointer (some _)) rfl) ?_ | refine lw_val rfl (run_move (v := .pointer none) rfl) ?_ | refine lw_val rfl (run_move (v := .pointer _) rfl) ?_
          refine lw_call rfl en21 (nextV_sl (L := [_, _, _]) hs) ?_
          clear hs
          rintro _ w ⟨rfl, hs⟩
          first | refine lw_val rfl (run_move (v := .int .i64 _) rfl) ?_
          refine lw_val rfl (run_nei rfl rfl) ?_
          refine lw_nil ?_
          refine cw_iff rfl (not_f (decide_eq_true (by rw [ht3.1, ht2.1, ht1.1]; omega))) ?_
          refine cw_skip ?_
          refine cw_region ?_
          first | refine lw_val rfl (run_move (v := .int .i64 _) rfl) ?_
          refine lw_val rfl (run_add64 rfl rfl rfl (inI (by omega) (by omega))) ?_
          first | refine lw_val rfl (run_assign (v := .int .i64 _) rfl) ?_
          refine lw_nil ?_
          exact ⟨(k + 1, aput (aput (aput V (id : Int) ⟨1, oneM id (bN id)⟩) (id : Int) ⟨3, oneM id (bN id)⟩) (id : Int) ⟨4, oneM id (bN id)⟩), by simp only; omega, ⟨by simp only; omega, by simp only [ht3.2, ht2.2, ht1.2]; omega, hO3, hs.arr [0] 4 (by decide)⟩, ⟨by simp only [ht3.1, ht2.1, ht1.1]; rfl, by simp only [ht3.2, ht2.2, ht1.2]; rfl, rfl, trivial⟩, by repeat (first | exact Out.mix _ _ _ | refine Out.updo rfl ?_ | refine Out.upd rfl ?_ | refine Out.mixIn rfl ?_)⟩
        · intro h65
          have g65 := of_decide_eq_false h65
          refine lw_off rfl rfl rfl h65 ?_
          refine lw_off rfl rfl rfl h65 ?_
          refine lw_off rfl rfl rfl h65 ?_
          refine lw_off rfl rfl rfl h65 ?_
          refine lw_off rfl rfl rfl h65 ?_
          refine lw_off rfl rfl rfl h65 ?_
          refine lw_offU rfl rfl rfl ?_
          refine lw_offU rfl rfl rfl ?_
          refine lw_offU rfl rfl rfl ?_
          refine lw_offU rfl rfl rfl ?_
          refine lw_offU rfl rfl rfl ?_
          refine lw_off rfl rfl rfl h65 ?_
          first | refine lw_val rfl (run_pickF (v := .bool _) rfl h65 rfl) ?_
          refine lw_nil ?_
          refine cw_iff rfl rfl ?_
          refine cw_skip ?_
          refine cw_seq ?_
          refine cw_region ?_
          first | refine lw_val rfl (run_move (v := .pointer (some _)) rfl) ?_ | refine lw_val rfl (run_move (v := .pointer none) rfl) ?_ | refine lw_val rfl (run_move (v := .pointer _) rfl) ?_
          refine lw_call rfl en21 (nextV_sl (L := [_, _, _]) hs) ?_
          clear hs
          rintro _ w ⟨rfl, hs⟩
          first | refine lw_val rfl (run_move (v := .int .i64 _) rfl) ?_
          refine lw_val rfl (run_nei rfl rfl) ?_
          refine lw_nil ?_
          refine cw_iff rfl (not_f (decide_eq_true (by rw [ht1.1]; omega))) ?_
          refine cw_skip ?_
          refine cw_region ?_
          first | refine lw_val rfl (run_move (v := .int .i64 _) rfl) ?_
          refine lw_val rfl (run_add64 rfl rfl rfl (inI (by omega) (by omega))) ?_
          first | refine lw_val rfl (run_assign (v := .int .i64 _) rfl) ?_
          refine lw_nil ?_
          exact ⟨(k + 1, aput V (id : Int) ⟨1, oneM id (bN id)⟩), by simp only; omega, ⟨by simp only; omega, by simp only [ht1.2]; omega, hO1, hs.arr [0] 4 (by decide)⟩, ⟨by simp only [ht1.1]; rfl, by simp only [ht1.2]; rfl, rfl, trivial⟩, by repeat (first | exact Out.mix _ _ _ | refine Out.updo rfl ?_ | refine Out.upd rfl ?_ | refine Out.mixIn rfl ?_)⟩
      · skip
        refine cw_region ?_
        first | refine lw_val rfl (run_move (v := .pointer (some _)) rfl) ?_ | refine lw_val rfl (run_move (v := .pointer none) rfl) ?_ | refine lw_val rfl (run_move (v := .pointer _) rfl) ?_
        first | refine lw_val rfl (run_loadRow hs 0 rfl Tryd.underlying39 sz39 rfl) ?_ | refine lw_val rfl (run_loadRow hs 1 rfl Tryd.underlying39 sz39 rfl) ?_ | refine lw_val rfl (run_loadRow hs 2 rfl Tryd.underlying39 sz39 rfl) ?_ | refine lw_val rfl (run_loadRow hs 3 rfl Tryd.underlying39 sz39 rfl) ?_ | refine lw_val rfl (run_loadRow hs 4 rfl Tryd.underlying39 sz39 rfl) ?_ | refine lw_val rfl (run_loadRow hs 5 rfl Tryd.underlying39 sz39 rfl) ?_ | refine lw_val rfl (run_loadRow hs 6 rfl Tryd.underlying39 sz39 rfl) ?_ | refine lw_val rfl (run_loadRow hs 7 rfl Tryd.underlying39 sz39 rfl) ?_ | refine lw_val rfl (run_loadRow hs 8 rfl Tryd.underlying39 sz39 rfl) ?_ | refine lw_val rfl (run_loadRow hs 9 rfl Tryd.underlying39 sz39 rfl) ?_ | refine lw_val rfl (run_loadRow hs 10 rfl Tryd.underlying39 sz39 rfl) ?_ | refine lw_val rfl (run_loadRow hs 11 rfl Tryd.underlying39 sz39 rfl) ?_ | refine lw_val rfl (run_loadRow hs 12 rfl Tryd.underlying39 sz39 rfl) ?_ | refine lw_val rfl (run_loadRow hs 13 rfl Tryd.underlying39 sz39 rfl) ?_
        refine lw_val rfl (run_buildKM (k := 1) (m := oneM id (1000 - 10 * id)) (e := s1) (o := s2) Tryd.underlying52 ze52 pl52 rfl rfl) ?_
        refine lw_call rfl en23 (applyB_sl hE hs (i := 3) rfl 1 (x := oneM id (1000 - 10 * id)) (s1 := s1) (s2 := s2) (MfR.own 1 2 rfl rfl) (by simp [oneM]) ((hap V hO 1 (by omega)).trans (if_neg (by rw [hnb]; decide)))) ?_
        clear hs
        rintro _ w ⟨rfl, hs⟩
        first | refine lw_val rfl (run_assign (v := errV ad _) rfl) ?_ | refine lw_val rfl (run_assign (v := .nilIface) rfl) ?_ | refine lw_val rfl (run_assign (v := eV ad _ _) rfl) ?_ | refine lw_val rfl (run_assign (v := .iface _ (.pointer (some _))) rfl) ?_ | refine lw_val rfl (run_assign (v := flV ad _ _) rfl) ?_
        refine lw_nil ?_
        refine cw_seq ?_
        refine cw_seq ?_
        refine cw_region ?_
        first | refine lw_val rfl (run_move (v := errV ad _) rfl) ?_ | refine lw_val rfl (run_move (v := .nilIface) rfl) ?_ | refine lw_val rfl (run_move (v := eV ad _ _) rfl) ?_ | refine lw_val rfl (run_move (v := .iface _ (.pointer (some _))) rfl) ?_ | refine lw_val rfl (run_move (v := flV ad _ _) rfl) ?_
        first | refine lw_val rfl (run_eqerrn (ad := ad) rfl) ?_ | refine lw_val rfl (run_eqnn rfl) ?_ | refine lw_val rfl (run_eqE (ad := ad) rfl) ?_
        refine lw_nil ?_
        refine cw_iff rfl (rfl) ?_
        refine cw_seq ?_
        refine cw_region ?_
        first | refine lw_val rfl (run_move (v := errV ad _) rfl) ?_ | refine lw_val rfl (run_move (v := .nilIface) rfl) ?_ | refine lw_val rfl (run_move (v := eV ad _ _) rfl) ?_ | refine lw_val rfl (run_move (v := .iface _ (.pointer (some _))) rfl) ?_ | refine lw_val rfl (run_move (v := flV ad _ _) rfl) ?_
        refine lw_call rfl en24 (isV_sl hA hs (d := 113) (.inr (by decide)) 113) ?_
        clear hs
        rintro _ w ⟨rfl, hs⟩
        refine lw_val rfl (run_not rfl) ?_
        refine lw_nil ?_
        refine cw_iff rfl (not_f (rfl)) ?_
        refine cw_skip ?_
        refine cw_seq ?_
        refine cw_region ?_
        first | refine lw_val rfl (run_move (v := .pointer (some _)) rfl) ?_ | refine lw_val rfl (run_move (v := .pointer none) rfl) ?_ | refine lw_val rfl (run_move (v := .pointer _) rfl) ?_
        refine lw_call rfl en21 (nextV_sl (L := [_, _, _]) hs) ?_
        clear hs
        rintro _ w ⟨rfl, hs⟩
        first | refine lw_val rfl (run_move (v := .int .i64 _) rfl) ?_
        refine lw_val rfl (run_nei rfl rfl) ?_
        refine lw_nil ?_
        refine cw_iff rfl (not_f (decide_eq_true (by omega))) ?_
        refine cw_skip ?_
        refine cw_region ?_
        first | refine lw_val rfl (run_move (v := .int .i64 _) rfl) ?_
        refine lw_val rfl (run_add64 rfl rfl rfl (inI (by omega) (by omega))) ?_
        first | refine lw_val rfl (run_assign (v := .int .i64 _) rfl) ?_
        refine lw_nil ?_
        exact ⟨(k + 1, V), by simp only; omega, ⟨by simp only; omega, by simp only; omega, hO, hs.arr [0] 4 (by decide)⟩, ⟨rfl, rfl, rfl, trivial⟩, by repeat (first | exact Out.mix _ _ _ | refine Out.updo rfl ?_ | refine Out.upd rfl ?_ | refine Out.mixIn rfl ?_)⟩
    · intro h35
      have g35 := of_decide_eq_false h35
      refine cw_exit rfl ?_
      refine cw_seq ?_
      refine cw_region ?_
      first | refine lw_val rfl (run_move (v := .pointer (some _)) rfl) ?_ | refine lw_val rfl (run_move (v := .pointer none) rfl) ?_ | refine lw_val rfl (run_move (v := .pointer _) rfl) ?_
      refine lw_buildSlice hs rfl ((intsL [1, 2, 3, 4])) Tryd.underlying22 zs3 rfl (cells_one (intsL_one _)) rfl rfl rfl ?_
      clear hs
      intro b88 w hs
      try simp only [List.set_cons_succ, List.set_cons_zero] at hs
      refine lw_call rfl en25 (viewIn_sl (L := [cells b88 _ _]) (l := [1, 2, 3, 4]) (hs.arr [1, 0] 2 (by decide)) (Rd.cells (n := 4) 0 rfl rfl) rfl (by decide)) ?_
      clear hs
      rintro _ w ⟨⟨sa, sc⟩, ts, rfl, hp, hpw, hs⟩
      have htl : ts.length = V.length := by have h1 := hp.length_eq; rw [List.length_map, hO.all4] at h1; exact h1
      have hrk := fun (L : List HP) => RdK.row (g := g) (L := rowK 6 (.slice sa ts.length sc) (ts.map t3L) :: L) 0 rfl
      first | refine lw_val rfl (run_assign (v := .slice _ _ _) rfl) ?_
      refine lw_nil ?_
      refine cw_seq ?_
      refine cw_seq ?_
      refine cw_region ?_
      first | refine lw_val rfl (run_assign (v := .int .i64 _) rfl) ?_
      refine lw_nil ?_
      refine cw_block ?_
      refine cw_loop (X := Nat) [2, 12, 90, 91, 92, 93, 94, 95, 96, 97, 98, 99, 100, 101, 102, 103, 104, 105, 106, 107, 108, 109, 110, 111, 112, 113, 114, 115, 116, 117, 118, 119, 120, 121] (fun q => [(12, .int .i64 (q : Nat))]) (fun q w => 1 ≤ q ∧ Mem g w [rowK 6 (.slice sa ts.length sc) (ts.map t3L), ViewC p V]) (fun q => ts.length - q) (1) ?_ ?_ ?_
      · exact ⟨rfl, trivial⟩
      · exact ⟨Nat.le_refl _, hs.arr [0, 2] 4 (by decide)⟩
      clear hs
      rintro x ξ w hI
      obtain ⟨hq1, hs⟩ := hI
      refine cw_seq ?_
      refine cw_seq ?_
      refine cw_region ?_
      first | refine lw_val rfl (run_move (v := .int .i64 _) rfl) ?_
      first | refine lw_val rfl (run_move (v := .slice _ _ _) rfl) ?_
      refine lw_val rfl (run_lenS Tryd.underlying54 rfl) ?_
      refine lw_val rfl (run_lss rfl rfl) ?_
      refine lw_nil ?_
      refine cw_if rfl ?_ ?_
      · intro h93
        have g93 := of_decide_eq_true h93
        obtain ⟨y, hy⟩ : ∃ y, ts[x]? = some y := ⟨_, List.getElem?_eq_getElem (by omega)⟩
        obtain ⟨y0, hy0⟩ : ∃ y, ts[x - 1]? = some y := ⟨_, List.getElem?_eq_getElem (by omega)⟩
        obtain ⟨b1, o1, rfl⟩ := (hrk _).at hs (by rw [List.length_map]; omega)
        have hri := hO.rise bN_falls hp hpw (t3M_at hy0) (by rw [show x - 1 + 1 = x by omega]; exact t3M_at hy)
        refine cw_skip ?_
        refine cw_seq ?_
        refine cw_block ?_
        refine cw_seq ?_
        refine cw_drawS mixes hs ?_
        intro w tr hK
        replace hs := tr _ hs
        clear tr
        first | refine aw_take 0 rfl (by kernel_rfl) (by kernel_rfl) (by kernel_rfl) rfl (fun w hs => run_move (v := .slice _ _ _) rfl) hK ?_
        first | refine aw_take 1 rfl (by kernel_rfl) (by kernel_rfl) (by kernel_rfl) rfl (fun w hs => run_move (v := .int .i64 _) rfl) hK ?_
        refine aw_take 2 rfl (by kernel_rfl) (by kernel_rfl) (by kernel_rfl) rfl (fun w hs => run_indexAddrK Tryd.underlying54 sz39 rfl rfl rfl (by omega) rfl) hK ?_
        first | refine aw_take 3 rfl (by kernel_rfl) (by kernel_rfl) (by kernel_rfl) rfl (fun w hs => run_fieldAddr (o' := 1) Tryd.underlying39 rfl sz2 rfl rfl rfl) hK ?_ | refine aw_take 3 rfl (by kernel_rfl) (by kernel_rfl) (by kernel_rfl) rfl (fun w hs => run_fieldAddr Tryd.underlying39 rfl sz2 rfl rfl rfl) hK ?_
        refine aw_take 4 rfl (by kernel_rfl) (by kernel_rfl) (by kernel_rfl) rfl (fun w hs => run_load Tryd.underlying2 rfl rfl ((hrk _).cell hs (t3L_at hy) (j := 1) rfl)) hK ?_
        first | refine aw_take 5 rfl (by kernel_rfl) (by kernel_rfl) (by kernel_rfl) rfl (fun w hs => run_move (v := .slice _ _ _) rfl) hK ?_
        first | refine aw_take 6 rfl (by kernel_rfl) (by kernel_rfl) (by kernel_rfl) rfl (fun w hs => run_move (v := .int .i64 _) rfl) hK ?_
        refine aw_take 7 rfl (by kernel_rfl) (by kernel_rfl) (by kernel_rfl) rfl (fun w hs => run_sub64 rfl rfl (c := ((x - 1 : Nat) : Int)) (by omega) (inI (by omega) (by omega))) hK ?_
        refine aw_take 8 rfl (by kernel_rfl) (by kernel_rfl) (by kernel_rfl) rfl (fun w hs => run_indexAddrK Tryd.underlying54 sz39 rfl rfl rfl (by omega) rfl) hK ?_
        first | refine aw_take 9 rfl (by kernel_rfl) (by kernel_rfl) (by kernel_rfl) rfl (fun w hs => run_fieldAddr (o' := 1) Tryd.underlying39 rfl sz2 rfl rfl rfl) hK ?_ | refine aw_take 9 rfl (by kernel_rfl) (by kernel_rfl) (by kernel_rfl) rfl (fun w hs => run_fieldAddr Tryd.underlying39 rfl sz2 rfl rfl rfl) hK ?_
        refine aw_take 10 rfl (by kernel_rfl) (by kernel_rfl) (by kernel_rfl) rfl (fun w hs => run_load Tryd.underlying2 rfl rfl ((hrk _).cell hs (t3L_at hy0) (j := 1) rfl)) hK ?_
        refine aw_take 11 rfl (by kernel_rfl) (by kernel_rfl) (by kernel_rfl) rfl (fun w hs => run_leq rfl rfl) hK ?_
        first | refine aw_take 12 rfl (by kernel_rfl) (by kernel_rfl) (by kernel_rfl) rfl (fun w hs => run_move (v := .bool _) rfl) hK ?_
        first | refine aw_takeOn 13 rfl (by kernel_rfl) (by kernel_rfl) (by kernel_rfl) rfl rfl rfl (decide_eq_false (by omega)) (fun w hs => run_move (v := .slice _ _ _) rfl) hK ?_
        first | refine aw_takeOn 14 rfl (by kernel_rfl) (by kernel_rfl) (by kernel_rfl) rfl rfl rfl (decide_eq_false (by omega)) (fun w hs => run_move (v := .int .i64 _) rfl) hK ?_
        refine aw_takeOn 15 rfl (by kernel_rfl) (by kernel_rfl) (by kernel_rfl) rfl rfl rfl (decide_eq_false (by omega)) (fun w hs => run_indexAddrK Tryd.underlying54 sz39 rfl rfl rfl (by omega) rfl) hK ?_
        first | refine aw_takeOn 16 rfl (by kernel_rfl) (by kernel_rfl) (by kernel_rfl) rfl rfl rfl (decide_eq_false (by omega)) (fun w hs => run_fieldAddr (o' := 0) Tryd.underlying39 rfl sz3 rfl rfl rfl) hK ?_ | refine aw_takeOn 16 rfl (by kernel_rfl) (by kernel_rfl) (by kernel_rfl) rfl rfl rfl (decide_eq_false (by omega)) (fun w hs => run_fieldAddr Tryd.underlying39 rfl sz3 rfl rfl rfl) hK ?_
        refine aw_takeOn 17 rfl (by kernel_rfl) (by kernel_rfl) (by kernel_rfl) rfl rfl rfl (decide_eq_false (by omega)) (fun w hs => run_load Tryd.underlying3 rfl rfl ((hrk _).cell hs (t3L_at hy) (j := 0) rfl)) hK ?_
        first | refine aw_takeOn 18 rfl (by kernel_rfl) (by kernel_rfl) (by kernel_rfl) rfl rfl rfl (decide_eq_false (by omega)) (fun w hs => run_move (v := .slice _ _ _) rfl) hK ?_
        first | refine aw_takeOn 19 rfl (by kernel_rfl) (by kernel_rfl) (by kernel_rfl) rfl rfl rfl (decide_eq_false (by omega)) (fun w hs => run_move (v := .int .i64 _) rfl) hK ?_
        refine aw_takeOn 20 rfl (by kernel_rfl) (by kernel_rfl) (by kernel_rfl) rfl rfl rfl (decide_eq_false (by omega)) (fun w hs => run_sub64 rfl rfl (c := ((x - 1 : Nat) : Int)) (by omega) (inI (by omega) (by omega))) hK ?_
        refine aw_takeOn 21 rfl (by kernel_rfl) (by kernel_rfl) (by kernel_rfl) rfl rfl rfl (decide_eq_false (by omega)) (fun w hs => run_indexAddrK Tryd.underlying54 sz39 rfl rfl rfl (by omega) rfl) hK ?_
        first | refine aw_takeOn 22 rfl (by kernel_rfl) (by kernel_rfl) (by kernel_rfl) rfl rfl rfl (decide_eq_false (by omega)) (fun w hs => run_fieldAddr (o' := 0) Tryd.underlying39 rfl sz3 rfl rfl rfl) hK ?_ | refine aw_takeOn 22 rfl (by kernel_rfl) (by kernel_rfl) (by kernel_rfl) rfl rfl rfl (decide_eq_false (by omega)) (fun w hs => run_fieldAddr Tryd.underlying39 rfl sz3 rfl rfl rfl) hK ?_
        refine aw_takeOn 23 rfl (by kernel_rfl) (by kernel_rfl) (by kernel_rfl) rfl rfl rfl (decide_eq_false (by omega)) (fun w hs => run_load Tryd.underlying3 rfl rfl ((hrk _).cell hs (t3L_at hy0) (j := 0) rfl)) hK ?_
        refine aw_takeOn 24 rfl (by kernel_rfl) (by kernel_rfl) (by kernel_rfl) rfl rfl rfl (decide_eq_false (by omega)) (fun w hs => run_geq rfl rfl) hK ?_
        first | refine aw_take 25 rfl (by kernel_rfl) (by kernel_rfl) (by kernel_rfl) rfl (fun w hs => run_pickF (v := .bool _) rfl (decide_eq_false (by omega)) rfl) hK ?_
        refine aw_done (by kernel_rfl) ?_
        clear hK
        refine cw_iff rfl (decide_eq_false (by omega)) ?_
        refine cw_skip ?_
        refine cw_region ?_
        first | refine lw_val rfl (run_move (v := .int .i64 _) rfl) ?_
        refine lw_val rfl (run_add64 rfl rfl rfl (inI (by omega) (by omega))) ?_
        first | refine lw_val rfl (run_assign (v := .int .i64 _) rfl) ?_
        refine lw_nil ?_
        exact ⟨x + 1, by omega, ⟨by omega, hs⟩, ⟨rfl, trivial⟩, by repeat (first | exact Out.mix _ _ _ | refine Out.updo rfl ?_ | refine Out.upd rfl ?_ | refine Out.mixIn rfl ?_)⟩
      · intro h93
        have g93 := of_decide_eq_false h93
        refine cw_exit rfl ?_
        refine cw_seq ?_
        refine cw_region ?_
        first | refine lw_val rfl (run_move (v := .slice _ _ _) rfl) ?_
        refine lw_val rfl (run_lenS Tryd.underlying54 rfl) ?_
        first | refine lw_val rfl (run_move (v := .int .i64 _) rfl) ?_
        refine lw_val rfl (run_eqi rfl rfl) ?_
        first | refine lw_val rfl (run_move (v := .bool _) rfl) ?_
        refine lw_on rfl rfl (decide_eq_true (by rw [htl])) ?_
        first | refine lw_val rfl (run_move (v := .pointer (some _)) rfl) ?_ | refine lw_val rfl (run_move (v := .pointer none) rfl) ?_ | refine lw_val rfl (run_move (v := .pointer _) rfl) ?_
        refine lw_on rfl rfl (decide_eq_true (by rw [htl])) ?_
        refine lw_call rfl en25 (viewIn_sl (L := [_]) (l := []) (hs.arr [1, 0] 2 (by decide)) Rd.nil rfl (by decide)) ?_
        clear hs
        rintro _ w ⟨s9, ts9, rfl, hp9, _, hs⟩
        have hl9 : ts9 = [] := by have h1 := hp9.length_eq; rw [Vw.inB_nil, List.length_map] at h1; exact List.eq_nil_of_length_eq_zero h1
        subst hl9
        refine lw_on rfl rfl (decide_eq_true (by rw [htl])) ?_
        refine lw_val rfl (run_lenS Tryd.underlying54 rfl) ?_
        refine lw_on rfl rfl (decide_eq_true (by rw [htl])) ?_
        refine lw_val rfl (run_eqi rfl rfl) ?_
        first | refine lw_val rfl (run_pickT (v := .bool _) rfl (decide_eq_true (by rw [htl])) rfl) ?_
        first | refine lw_val rfl (run_assign (v := .bool _) rfl) ?_
        refine lw_nil ?_
        refine cw_ret ?_
        refine res1 (v := .bool _) rfl rfl ?_
        exact ⟨_, rfl, rfl, hs.nil⟩
end Go.Proofs.YtkogkokmcmallaaDoor
