/- The store, over chunks: Complete. -/
import Derived.Test.YtkogkokmcmallaaGreatDoorT3
namespace Go.Proofs.YtkogkokmcmallaaGreatDoor
set_option linter.all false
open Go.RowKit
attribute [local irreducible] errV
variable {g w : World} {L M : List HP} {ad : Nat → Addr} {p : Nat} {st : St}

/-- The first k parts, one behind the other. -/
def outK (parts : List (Int × List UInt8)) (k : Nat) : List UInt8 := ((List.range k).map fun i => (aget parts ((i : Nat) : Int)).getD []).flatten
theorem outK_succ {parts : List (Int × List UInt8)} {k : Nat} {b : List UInt8} (h : aget parts ((k : Nat) : Int) = some b) : outK parts (k + 1) = outK parts k ++ b := by
  simp [outK, List.range_succ, h]
theorem outK_len {parts : List (Int × List UInt8)} {N : Nat} (h : ∀ k b, (k, b) ∈ parts → b.length ≤ N) : ∀ k, (outK parts k).length ≤ k * N
  | 0 => by simp [outK]
  | k + 1 => by
    have ih := outK_len h k
    have e : outK parts (k + 1) = outK parts k ++ (aget parts ((k : Nat) : Int)).getD [] := by simp [outK, List.range_succ]
    have hb : ((aget parts ((k : Nat) : Int)).getD []).length ≤ N := by
      cases ho : aget parts ((k : Nat) : Int) with
      | none => simp
      | some b => exact h _ _ (aget_mem ho)
    rw [e, List.length_append, Nat.succ_mul]
    omega
def haveAll (parts : List (Int × List UInt8)) (K : Nat) : Bool := (List.range K).all fun i => (aget parts ((i : Nat) : Int)).isSome
theorem haveAll_iff {parts : List (Int × List UInt8)} {K : Nat} : haveAll parts K = true ↔ ∀ i, i < K → (aget parts ((i : Nat) : Int)).isSome = true := by simp [haveAll]
def St.complete1 (id k : Int) (st : St) : Nat × St := match aget st.ups id with
  | none => (107, st)
  | some u => if k < 0 ∨ 256 < k then (105, st) else if haveAll u.parts k.toNat then (0, { st with objs := aput st.objs u.name (outK u.parts k.toNat), ups := adel st.ups id }) else (105, st)
theorem completeC_sl (hE : ErrG ad g) (hsm : st.small) {sb ib kb : Nat} {id k : Int} (hs : Mem g w (StoreC p st :: cells kb [.int .i64 k] 3 :: cells ib [.int .i64 id] 3 :: cells sb [.pointer (some ⟨p, 0, none⟩)] 26 :: M)) :
    Calls Tryz.prog 162 #[.pointer (some ⟨sb, 0, none⟩), .pointer (some ⟨ib, 0, none⟩), .pointer (some ⟨kb, 0, none⟩)] w (Ret fun v w' => v = errV ad (st.complete1 id k).1 ∧ Mem g w' (StoreC p (st.complete1 id k).2 :: cells kb [.int .i64 k] 3 :: cells ib [.int .i64 id] 3 :: cells sb [.pointer (some ⟨p, 0, none⟩)] 26 :: M)) := by
  obtain ⟨mo, mu, sa, sn, sc, es, us, hn, hs⟩ := hs.openS
  simp only [storeParts, List.cons_append, List.nil_append] at hs
  have hky := hs.famKeys 4 rfl
  have hnd : (keysOf us).Nodup := by rw [← up_keys]; exact (hs.mapAt 3 rfl).nodup
  cases ho : aget st.ups id with
  | none =>
    have he : aget (us.map upPtr) id = none := by rw [up_aget, fam_none hky ho]; rfl
    have hp : st.complete1 id k = (107, st) := by simp [St.complete1, ho]
    rw [hp]
    refine calls_cw Tryz.func162 rfl rfl ?_
    skip
    refine cw_seq ?_
    refine cw_region ?_
    refine lw_val rfl (run_assign (v := .nilIface) rfl) ?_
    refine lw_nil ?_
    refine cw_seq ?_
    refine cw_drawS mixes hs ?_
    intro w tr hK
    replace hs := tr _ hs
    clear tr
    refine aw_take 0 rfl (by kernel_rfl) (by kernel_rfl) (by kernel_rfl) rfl (fun w hs => run_load Tryz.underlying26 rfl rfl (hs.cellAt 8 rfl rfl)) hK ?_
    refine aw_take 1 rfl (by kernel_rfl) (by kernel_rfl) (by kernel_rfl) rfl (fun w hs => run_nilCheckP rfl) hK ?_
    refine aw_take 2 rfl (by kernel_rfl) (by kernel_rfl) (by kernel_rfl) rfl (fun w hs => run_fieldAddr (o' := 1) Tryz.underlying135 rfl sz133 rfl rfl rfl) hK ?_
    refine aw_take 3 rfl (by kernel_rfl) (by kernel_rfl) (by kernel_rfl) rfl (fun w hs => run_load Tryz.underlying133 rfl rfl (hs.cellAt 0 rfl rfl)) hK ?_
    refine aw_take 4 rfl (by kernel_rfl) (by kernel_rfl) (by kernel_rfl) rfl (fun w hs => run_load Tryz.underlying3 rfl rfl (hs.cellAt 7 rfl rfl)) hK ?_
    refine aw_take 5 rfl (by kernel_rfl) (by kernel_rfl) (by kernel_rfl) rfl (fun w hs => run_lookup (hs.mapAt 3 rfl) intKind Tryz.underlying133 Tryz.underlying3 ze145 rfl rfl he) hK ?_
    refine aw_take 6 rfl (by kernel_rfl) (by kernel_rfl) (by kernel_rfl) rfl (fun w hs => run_assign (v := .pointer none) rfl) hK ?_
    refine aw_done (by kernel_rfl) ?_
    clear hK
    refine cw_seq ?_
    refine cw_block ?_
    refine cw_seq ?_
    refine cw_region ?_
    refine lw_val rfl (run_move (v := .pointer none) rfl) ?_
    refine lw_val rfl (run_eqpn Tryz.underlying145 rfl rfl) ?_
    refine lw_val rfl (run_assign (v := .bool _) rfl) ?_
    refine lw_nil ?_
    refine cw_ift rfl (rfl) ?_
    refine cw_seq ?_
    refine cw_region ?_
    refine lw_val rfl (run_load Tryz.underlying30 rfl rfl (hE.cellW hs 107 (by decide) rfl)) ?_
    refine lw_val rfl (run_assign (v := errV ad _) rfl) ?_
    refine lw_nil ?_
    refine cw_ret ?_
    refine res1 (v := errV ad _) rfl rfl ?_
    exact ⟨_, rfl, rfl, hs.closeS⟩
  | some u =>
    obtain ⟨⟨ub, pm⟩, hu⟩ := fam_some hky ho
    have he : aget (us.map upPtr) id = some (.pointer (some ⟨ub, 0, none⟩)) := by rw [up_aget, hu]; rfl
    have hbad : k < 0 ∨ 256 < k → st.complete1 id k = (105, st) := fun h => by simp only [St.complete1, ho]; rw [if_pos h]
    have hlen := outK_len (hsm.2 id u (aget_mem ho))
    refine calls_cw Tryz.func162 rfl rfl ?_
    skip
    refine cw_seq ?_
    refine cw_region ?_
    refine lw_val rfl (run_assign (v := .nilIface) rfl) ?_
    refine lw_nil ?_
    refine cw_seq ?_
    refine cw_drawS mixes hs ?_
    intro w tr hK
    replace hs := tr _ hs
    clear tr
    refine aw_take 0 rfl (by kernel_rfl) (by kernel_rfl) (by kernel_rfl) rfl (fun w hs => run_load Tryz.underlying26 rfl rfl (hs.cellAt 8 rfl rfl)) hK ?_
    refine aw_take 1 rfl (by kernel_rfl) (by kernel_rfl) (by kernel_rfl) rfl (fun w hs => run_nilCheckP rfl) hK ?_
    refine aw_take 2 rfl (by kernel_rfl) (by kernel_rfl) (by kernel_rfl) rfl (fun w hs => run_fieldAddr (o' := 1) Tryz.underlying135 rfl sz133 rfl rfl rfl) hK ?_
    refine aw_take 3 rfl (by kernel_rfl) (by kernel_rfl) (by kernel_rfl) rfl (fun w hs => run_load Tryz.underlying133 rfl rfl (hs.cellAt 0 rfl rfl)) hK ?_
    refine aw_take 4 rfl (by kernel_rfl) (by kernel_rfl) (by kernel_rfl) rfl (fun w hs => run_load Tryz.underlying3 rfl rfl (hs.cellAt 7 rfl rfl)) hK ?_
    refine aw_take 5 rfl (by kernel_rfl) (by kernel_rfl) (by kernel_rfl) rfl (fun w hs => run_lookup (hs.mapAt 3 rfl) intKind Tryz.underlying133 Tryz.underlying3 ze145 rfl rfl he) hK ?_
    refine aw_take 6 rfl (by kernel_rfl) (by kernel_rfl) (by kernel_rfl) rfl (fun w hs => run_assign (v := .pointer (some _)) rfl) hK ?_
    refine aw_done (by kernel_rfl) ?_
    clear hK
    refine cw_seq ?_
    refine cw_block ?_
    refine cw_seq ?_
    refine cw_region ?_
    refine lw_val rfl (run_move (v := .pointer (some _)) rfl) ?_
    refine lw_val rfl (run_eqpn Tryz.underlying145 rfl rfl) ?_
    refine lw_val rfl (run_assign (v := .bool _) rfl) ?_
    refine lw_nil ?_
    refine cw_iff rfl rfl ?_
    refine cw_seq ?_
    refine cw_region ?_
    refine lw_val rfl (run_load Tryz.underlying3 rfl rfl (hs.cellAt 6 rfl rfl)) ?_
    refine lw_val rfl (run_lss rfl rfl) ?_
    refine lw_val rfl (run_move (v := .bool _) rfl) ?_
    refine lw_split (t := _) (d := 22) rfl ?_ ?_
    · intro h21
      have g21 := of_decide_eq_true h21
      refine lw_off rfl rfl rfl h21 ?_
      refine lw_off rfl rfl rfl h21 ?_
      refine lw_val rfl (run_pickT (v := .bool _) rfl h21 rfl) ?_
      refine lw_val rfl (run_assign (v := .bool _) rfl) ?_
      refine lw_nil ?_
      refine cw_ift rfl rfl ?_
      refine cw_seq ?_
      refine cw_region ?_
      refine lw_val rfl (run_load Tryz.underlying30 rfl rfl (hE.cellW hs 105 (by decide) rfl)) ?_
      refine lw_val rfl (run_assign (v := errV ad _) rfl) ?_
      refine lw_nil ?_
      refine cw_ret ?_
      refine res1 (v := errV ad _) rfl rfl ?_
      rw [hbad (by omega)]
      exact ⟨_, rfl, rfl, hs.closeS⟩
    · intro h21
      have g21 := of_decide_eq_false h21
      refine lw_on rfl rfl h21 ?_
      refine lw_val rfl (run_load Tryz.underlying3 rfl rfl (hs.cellAt 6 rfl rfl)) ?_
      refine lw_on rfl rfl h21 ?_
      refine lw_val rfl (run_gtr rfl rfl) ?_
      refine lw_val rfl (run_pickF (v := .bool _) rfl h21 rfl) ?_
      refine lw_val rfl (run_assign (v := .bool _) rfl) ?_
      refine lw_nil ?_
      refine cw_if rfl ?_ ?_
      · intro h24
        have g24 := of_decide_eq_true h24
        refine cw_seq ?_
        refine cw_region ?_
        refine lw_val rfl (run_load Tryz.underlying30 rfl rfl (hE.cellW hs 105 (by decide) rfl)) ?_
        refine lw_val rfl (run_assign (v := errV ad _) rfl) ?_
        refine lw_nil ?_
        refine cw_ret ?_
        refine res1 (v := errV ad _) rfl rfl ?_
        rw [hbad (by omega)]
        exact ⟨_, rfl, rfl, hs.closeS⟩
      · intro h24
        have g24 := of_decide_eq_false h24
        obtain ⟨K, rfl⟩ : ∃ K : Nat, k = K := ⟨k.toNat, by omega⟩
        refine cw_skip ?_
        refine cw_seq ?_
        obtain ⟨ps, hs⟩ := (hs.famTake 4 rfl hu ho).openU
        simp only [List.set_cons_succ, List.set_cons_zero] at hs
        refine cw_region ?_
        refine lw_val rfl (run_assign (v := .slice _ _ _) rfl) ?_
        refine lw_nil ?_
        refine cw_seq ?_
        refine cw_seq ?_
        refine cw_region ?_
        refine lw_val rfl (run_load Tryz.underlying3 rfl rfl (hs.cellAt 9 rfl rfl)) ?_
        refine lw_val rfl (run_move (v := .int .i64 _) rfl) ?_
        refine lw_nil ?_
        refine cw_block ?_
        refine cw_loop (X := Nat × Option Addr × Nat) [3, 5, 6, 7, 8, 28, 29, 30, 31, 32, 33, 34, 35, 36, 37, 38, 39, 40, 41, 42, 43, 44, 45, 46] (fun x => [(5, .slice x.2.1 (outK u.parts x.1).length x.2.2), (28, .int .i64 (x.1 : Nat))]) (fun x w => x.1 ≤ K ∧ (∀ i : Nat, i < x.1 → (aget u.parts ((i : Nat) : Int)).isSome = true) ∧ Mem g w (own (.slice x.2.1 (outK u.parts x.1).length x.2.2) (bytesL (outK u.parts x.1)) :: cells ub [.string u.name, .map (some pm)] 148 :: mapI pm ps :: partsC ps u.parts :: cells p (storeL mo mu st.ids (.slice sa sn sc) st.calls st.failed) 135 :: mapS mo es :: objsC es st.objs :: mapI mu (us.map upPtr) :: famX upC (· = id) us st.ups :: own (.slice sa sn sc) (intsL st.script) :: cells kb [.int .i64 (K : Nat)] 3 :: cells ib [.int .i64 id] 3 :: cells sb [.pointer (some ⟨p, 0, none⟩)] 26 :: M)) (fun x => K - x.1) ((0, none, 0)) ?_ ?_ ?_
        · exact ⟨rfl, rfl, trivial⟩
        · exact ⟨Nat.zero_le _, (fun _ h => absurd h (Nat.not_lt_zero _)), hs.addE (own_nil _)⟩
        clear hs
        rintro x ξ w hI
        obtain ⟨j, a, c⟩ := x
        obtain ⟨hj, hall, hs⟩ := hI
        simp only at hj hall hs
        refine cw_seq ?_
        refine cw_region ?_
        refine lw_val rfl (run_lss rfl rfl) ?_
        refine lw_nil ?_
        refine cw_seq ?_
        refine cw_if rfl ?_ ?_
        · intro h29
          have g29 := of_decide_eq_true h29
          obtain ⟨o, hox⟩ : ∃ o, aget ps ((j : Nat) : Int) = o := ⟨_, rfl⟩
          have hkp := hs.famKeys 3 rfl
          have hlj := hlen j
          have hjj : j < K := by simpa using g29
          refine cw_skip ?_
          refine cw_seq ?_
          refine cw_block ?_
          refine cw_seq ?_
          refine cw_region ?_
          refine lw_val rfl (run_move (v := .int .i64 _) rfl) ?_
          refine lw_val rfl (run_assign (v := .int .i64 _) rfl) ?_
          refine lw_nil ?_
          refine cw_seq ?_
          refine cw_region ?_
          refine lw_val rfl (run_move (v := .pointer (some _)) rfl) ?_
          refine lw_val rfl (run_nilCheckP rfl) ?_
          refine lw_val rfl (run_fieldAddr (o' := 1) Tryz.underlying148 rfl sz146 rfl rfl rfl) ?_
          refine lw_val rfl (run_load Tryz.underlying146 rfl rfl (hs.cellAt 1 rfl rfl)) ?_
          refine lw_val rfl (run_move (v := .int .i64 _) rfl) ?_
          refine lw_val rfl (run_lookupOk (hs.mapAt 2 rfl) intKind Tryz.underlying146 Tryz.underlying3 ze64 rfl rfl hox) ?_
          refine lw_val rfl (run_move (v := .tuple _) rfl) ?_
          refine lw_val rfl (run_extract (v := o.getD (.slice none 0 0)) rfl rfl) ?_
          refine lw_val rfl (run_extract (v := .bool _) rfl rfl) ?_
          refine lw_val rfl (run_assign (v := o.getD (.slice none 0 0)) rfl) ?_
          refine lw_val rfl (run_assign (v := .bool _) rfl) ?_
          refine lw_nil ?_
          refine cw_seq ?_
          refine cw_seq ?_
          refine cw_region ?_
          refine lw_val rfl (run_move (v := .bool _) rfl) ?_
          refine lw_val rfl (run_not rfl) ?_
          refine lw_nil ?_
          refine cw_if rfl ?_ ?_
          · intro h39
            replace h39 := not_b h39
            refine cw_seq ?_
            refine cw_region ?_
            refine lw_val rfl (run_load Tryz.underlying30 rfl rfl (hE.cellW hs 105 (by decide) rfl)) ?_
            refine lw_val rfl (run_assign (v := errV ad _) rfl) ?_
            refine lw_nil ?_
            refine cw_ret ?_
            refine res1 (v := errV ad _) rfl rfl ?_
            have hno : aget ps ((j : Nat) : Int) = none := by cases o with | none => exact hox | some v => cases h39
            have hp : st.complete1 id K = (105, st) := by simp only [St.complete1, ho]; rw [if_neg (by omega), if_neg (fun h => by have := haveAll_iff.1 h j (by omega); rw [fam_none hkp.symm hno] at this; cases this)]
            rw [hp]
            have h2 := Mem.closeU (u := u) hs.tail
            have h3 := Mem.famPut (R := upC) (k := id) h2 4 rfl (fun _ h => h)
            rw [aput_same hu, aput_same ho] at h3
            exact ⟨_, rfl, rfl, h3.closeS⟩
          · intro h39
            replace h39 := not_c h39
            obtain ⟨v, rfl⟩ := Option.isSome_iff_exists.1 h39
            obtain ⟨b, hb⟩ := fam_some hkp.symm hox
            obtain ⟨a2, c2, he2, hr⟩ := hs.bytesAt 3 rfl hb
            rw [hox] at he2
            cases he2
            have hbl := hsm.2 id u (aget_mem ho) _ b (aget_mem hb)
            have hsrc := src_of_seq (P := Tryz.prog) Tryz.underlying64 (hr.seq hs) (bytesL_one b)
            have hle : j * 4194304 ≤ 255 * 4194304 := Nat.mul_le_mul_right _ (by omega)
            refine cw_skip ?_
            refine cw_region ?_
            refine lw_val rfl (run_move (v := .slice _ _ _) rfl) ?_
            refine lw_val rfl (run_move (v := .slice _ _ _) rfl) ?_
            refine lw_append hs rfl 0 rfl Tryz.underlying64 in5 rfl rfl rfl hsrc (by simp only [bytesL_len]; omega) (by simp only [bytesL_len]; omega) ?_
            clear hs
            intro a45 c45 w hs
            simp only [List.set_cons_succ, List.set_cons_zero] at hs
            have e45 := outK_succ hb
            rw [show bytesL (outK u.parts j) ++ bytesL b = bytesL (outK u.parts (j + 1)) by rw [e45]; simp [bytesL]] at hs
            have e46 : (bytesL (outK u.parts j)).length + (bytesL b).length = (outK u.parts (j + 1)).length := by rw [e45]; simp [bytesL]
            rw [e46] at hs
            refine lw_val rfl (run_assign (v := .slice _ _ _) rfl) ?_
            refine lw_nil ?_
            refine cw_region ?_
            refine lw_val rfl (run_add64 rfl rfl rfl (inI (by omega) (by omega))) ?_
            refine lw_val rfl (run_move (v := .int .i64 _) rfl) ?_
            refine lw_nil ?_
            exact ⟨(j + 1, a45, c45), by simp only; omega, ⟨by simp only; omega, fun i hi => (Nat.lt_succ_iff_lt_or_eq.1 hi).elim (hall i) (fun e => by rw [e, hb]; rfl), hs⟩, ⟨show Value.slice a45 ((bytesL (outK u.parts j)).length + (bytesL b).length) c45 = Value.slice a45 (outK u.parts (j + 1)).length c45 from by rw [e46], rfl, trivial⟩, by repeat (first | exact Out.mix _ _ _ | refine Out.updo rfl ?_ | refine Out.upd rfl ?_ | refine Out.mixIn rfl ?_)⟩
        · intro h29
          have g29 := of_decide_eq_false h29
          have hjK : j = K := by (have := g29; simp only at this; omega)
          subst hjK
          refine cw_exit rfl ?_
          refine cw_seq ?_
          refine cw_drawS mixes (hs.drop 5) ?_
          intro w tr hK
          replace hs := tr _ hs
          clear tr
          refine aw_take 0 rfl (by kernel_rfl) (by kernel_rfl) (by kernel_rfl) rfl (fun w hs => run_load Tryz.underlying26 rfl rfl (hs.cellAt 11 rfl rfl)) hK ?_
          refine aw_take 1 rfl (by kernel_rfl) (by kernel_rfl) (by kernel_rfl) rfl (fun w hs => run_nilCheckP rfl) hK ?_
          refine aw_take 2 rfl (by kernel_rfl) (by kernel_rfl) (by kernel_rfl) rfl (fun w hs => run_fieldAddr (o' := 0) Tryz.underlying135 rfl sz132 rfl rfl rfl) hK ?_
          refine aw_take 3 rfl (by kernel_rfl) (by kernel_rfl) (by kernel_rfl) rfl (fun w hs => run_load Tryz.underlying132 rfl rfl (hs.cellAt 4 rfl rfl)) hK ?_
          refine aw_take 4 rfl (by kernel_rfl) (by kernel_rfl) (by kernel_rfl) rfl (fun w hs => run_move (v := .pointer (some _)) rfl) hK ?_
          refine aw_take 5 rfl (by kernel_rfl) (by kernel_rfl) (by kernel_rfl) rfl (fun w hs => run_nilCheckP rfl) hK ?_
          refine aw_take 6 rfl (by kernel_rfl) (by kernel_rfl) (by kernel_rfl) rfl (fun w hs => run_fieldAddr (o' := 0) Tryz.underlying148 rfl sz9 rfl rfl rfl) hK ?_
          refine aw_take 7 rfl (by kernel_rfl) (by kernel_rfl) (by kernel_rfl) rfl (fun w hs => run_load Tryz.underlying9 rfl rfl (hs.cellAt 1 rfl rfl)) hK ?_
          refine aw_take 8 rfl (by kernel_rfl) (by kernel_rfl) (by kernel_rfl) rfl (fun w hs => run_move (v := .slice _ _ _) rfl) hK ?_
          refine aw_ready [9] (by kernel_rfl) (by simp) ?_
          refine ⟨⟨_, rfl, ?_⟩, trivial⟩
          refine lw_mapUpdate (v := .slice _ _ _) hs 5 rfl strKind Tryz.underlying132 Tryz.underlying9 rfl rfl rfl ?_
          clear hs
          intro w hs
          try simp only [List.set_cons_succ, List.set_cons_zero] at hs
          clear hK
          have hK := hs.drop 5
          refine lw_nil ⟨hK, ?_⟩
          refine aw_done (by kernel_rfl) ?_
          clear hK
          refine cw_seq ?_
          refine cw_drawS mixes (hs.drop 7) ?_
          intro w tr hK
          replace hs := tr _ hs
          clear tr
          refine aw_take 0 rfl (by kernel_rfl) (by kernel_rfl) (by kernel_rfl) rfl (fun w hs => run_load Tryz.underlying26 rfl rfl (hs.cellAt 11 rfl rfl)) hK ?_
          refine aw_take 1 rfl (by kernel_rfl) (by kernel_rfl) (by kernel_rfl) rfl (fun w hs => run_nilCheckP rfl) hK ?_
          refine aw_take 2 rfl (by kernel_rfl) (by kernel_rfl) (by kernel_rfl) rfl (fun w hs => run_fieldAddr (o' := 1) Tryz.underlying135 rfl sz133 rfl rfl rfl) hK ?_
          refine aw_take 3 rfl (by kernel_rfl) (by kernel_rfl) (by kernel_rfl) rfl (fun w hs => run_load Tryz.underlying133 rfl rfl (hs.cellAt 4 rfl rfl)) hK ?_
          refine aw_take 4 rfl (by kernel_rfl) (by kernel_rfl) (by kernel_rfl) rfl (fun w hs => run_load Tryz.underlying3 rfl rfl (hs.cellAt 10 rfl rfl)) hK ?_
          refine aw_ready [5] (by kernel_rfl) (by simp) ?_
          refine ⟨⟨_, rfl, ?_⟩, trivial⟩
          refine lw_delete hs rfl 7 rfl intKind Tryz.underlying133 Tryz.underlying3 rfl rfl ?_
          clear hs
          intro w hs
          try simp only [List.set_cons_succ, List.set_cons_zero] at hs
          clear hK
          have hK := hs.drop 7
          refine lw_nil ⟨hK, ?_⟩
          refine aw_done (by kernel_rfl) ?_
          clear hK
          refine cw_seq ?_
          refine cw_region ?_
          refine lw_val rfl (run_assign (v := .nilIface) rfl) ?_
          refine lw_nil ?_
          refine cw_ret ?_
          refine res1 (v := .nilIface) rfl rfl ?_
          have hp : st.complete1 id j = (0, { st with objs := aput st.objs u.name (outK u.parts j), ups := adel st.ups id }) := by simp only [St.complete1, ho]; rw [if_neg (by omega), if_pos (haveAll_iff.2 (fun i hi => hall i (by omega)))]; simp
          rw [hp]
          have h1 := Mem.famPut (R := rdB) (k := u.name) (b := outK u.parts j) (hs.ownRd 0 rfl) 5 rfl (fun _ h => False.elim h)
          have h2 := Mem.famDel (R := upC) (k := id) h1 7 rfl hnd (fun _ h => h)
          exact ⟨_, rfl, (errV_zero ad).symm, Mem.closeS (st := { st with objs := aput st.objs u.name (outK u.parts j), ups := adel st.ups id }) (mo := mo) (mu := mu) (sv := .slice sa sn sc) (es := aput es u.name (.slice a (outK u.parts j).length c)) (us := adel us id) (by simp only [storeParts]; rw [up_adel]; exact h2.arr [3, 4, 5, 6, 7, 8] 9 (by decide))⟩
theorem complete_sl (hE : ErrG ad g) (hsm : st.small) (hs : Mem g w (StoreC p st :: M)) (hcl : st.calls < 4611686018427387904) (hfl : st.failed < 4611686018427387904) {id k : Int} {x : Nat} {st2 : St} (hk : st.run (St.complete1 id k) = (x, st2)) :
    Calls Tryz.prog 56 #[.pointer (some ⟨p, 0, none⟩), .int .i64 id, .int .i64 k] w (Ret fun v w' => v = errV ad x ∧ Mem g w' (StoreC p st2 :: M)) := by
  have k1 : (st.run (St.complete1 id k)).1 = x := by rw [hk]
  have k2 : (st.run (St.complete1 id k)).2 = st2 := by rw [hk]
  subst k1 k2
  have hbs : st.begin.small := hsm
  refine calls_cw Tryz.func56 rfl rfl ?_
  skip
  refine cw_seq ?_
  refine cw_region ?_
  refine lw_box (v := .pointer (some _)) hs rfl rfl ?_
  clear hs
  intro b3 w hs
  try simp only [List.set_cons_succ, List.set_cons_zero] at hs
  refine lw_box (v := .int .i64 _) hs rfl rfl ?_
  clear hs
  intro b4 w hs
  try simp only [List.set_cons_succ, List.set_cons_zero] at hs
  refine lw_box (v := .int .i64 _) hs rfl rfl ?_
  clear hs
  intro b5 w hs
  try simp only [List.set_cons_succ, List.set_cons_zero] at hs
  refine lw_val rfl (run_assign (v := .nilIface) rfl) ?_
  refine lw_nil ?_
  refine cw_seq ?_
  replace hs := hs.pick 3 rfl
  simp only [List.eraseIdx_cons_succ, List.eraseIdx_cons_zero] at hs
  refine cw_region ?_
  refine lw_val rfl (run_load Tryz.underlying26 rfl rfl (hs.cellAt 3 rfl rfl)) ?_
  refine lw_val rfl (run_makeFunc) ?_
  refine lw_call rfl en91 (call_err (cap := #[.pointer (some ⟨b3, 0, none⟩), .pointer (some ⟨b4, 0, none⟩), .pointer (some ⟨b5, 0, none⟩)]) hE hs hcl hfl (St.complete1 id k) en162 (fun w1 h1 => completeC_sl hE hbs h1)) ?_
  clear hs
  rintro _ w ⟨rfl, hs⟩
  refine lw_val rfl (run_assign (v := errV ad _) rfl) ?_
  refine lw_nil ?_
  refine cw_ret ?_
  refine res1 (v := errV ad _) rfl rfl ?_
  exact ⟨_, rfl, rfl, hs.arr [0] 4 (by decide)⟩
end Go.Proofs.YtkogkokmcmallaaGreatDoor
