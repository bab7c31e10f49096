/- The law MlogRefuses: entries that may not come are refused, and nothing is written. -/
import Derived.Test.YtdkgdjnbpjjfmaaGreatDoorU7
namespace Go.Proofs.YtdkgdjnbpjjfmaaGreatDoor
set_option linter.all false
open Go.RowKit
attribute [local irreducible] zAo eV
variable {g w : World} {L M : List HP} {ad : Nat → Addr}

attribute [local irreducible] enz Vw.apply
set_option maxHeartbeats 2000000 in
set_option maxRecDepth 10000 in
theorem mlogRefuses_sl (hA : ErrA ad g) (hs : Mem g w []) {a0 : Option Addr} {n0 c0 : Nat} {l : List Int} (h0 : Came g (.slice a0 n0 c0) (intsL l)) (e0 : n0 = l.length) {kd : Int} {m : Mf} {e o : SA} (h1 : RowsR g 2 (.slice e.1 m.eps.length e.2) (m.eps.map prL)) (h2 : RowsR g 3 (.slice o.1 m.obs.length o.2) (m.obs.map obL)) (hu : ∀ y ∈ m.obs, y.2.2 < 4294967296) (every : Int) : Calls Tryz.prog 6 #[.slice a0 n0 c0, .agg (.int .i64 kd :: mfL m e o).toArray, .int .i64 every] w (Ret fun v w' => v = .bool true ∧ Mem g w' []) := by
  subst e0
  have hM : ErrM ad g := Errs.sub hA (fun c hc => by simp only [zF3, allCodes, List.mem_cons, List.not_mem_nil, or_false] at *; omega)
  have hm : ∀ L, MfR g L m e o := fun L => ⟨h1.rd L, h2.rd L⟩
  refine zAm Tryz.func6 rfl rfl ?_
  skip
  refine zA5 (zA1 ?_)
  refine zCd (v := .agg _) hs rfl rfl ?_
  clear hs
  intro b4 w hs
  try simp only [List.set_cons_succ, List.set_cons_zero] at hs
  refine zA rfl (zA2 (v := .bool _) rfl) ?_
  refine zA4 (zA5 (zA1 ?_))
  refine zAa rfl en8 (first17_sl hM hs) ?_
  clear hs
  rintro _ w ⟨rfl, hs⟩
  refine zA rfl (zA2 (v := .bool _) rfl) ?_
  refine zA4 ?_
  refine zA5 ?_
  refine zA5 (zA1 ?_)
  refine zA rfl (zA0 (v := .bool _) rfl) ?_
  refine zA rfl (zBz rfl) ?_
  refine zA4 ?_
  refine zB rfl (zBu (rfl)) ?_
  refine zAd ?_
  refine zA5 ?_
  refine zA5 (zA1 ?_)
  refine zA rfl (zA0 (v := .slice _ _ _) rfl) ?_
  refine zA rfl (zAx uz22 rfl) ?_
  refine zA rfl (zBi rfl rfl) ?_
  refine zA rfl (zA0 (v := .bool _) rfl) ?_
  refine zB4 (t := _) (d := 24) rfl ?_ ?_
  ·
   intro h23
   have g23 := of_decide_eq_true h23
   refine zA9 rfl rfl rfl h23 ?_
   refine zA9 rfl rfl rfl h23 ?_
   refine zA9 rfl rfl rfl h23 ?_
   refine zA9 rfl rfl rfl h23 ?_
   refine zA rfl (zAi (v := .bool _) rfl h23 rfl) ?_
   refine zA rfl (zA0 (v := .bool _) rfl) ?_
   refine zA9 rfl rfl rfl rfl ?_
   refine zA9 rfl rfl rfl rfl ?_
   refine zA9 rfl rfl rfl rfl ?_
   refine zA9 rfl rfl rfl rfl ?_
   refine zA9 rfl rfl rfl rfl ?_
   refine zA rfl (zAi (v := .bool _) rfl rfl rfl) ?_
   refine zA rfl (zA0 (v := .bool _) rfl) ?_
   refine zA9 rfl rfl rfl rfl ?_
   refine zA9 rfl rfl rfl rfl ?_
   refine zA rfl (zAi (v := .bool _) rfl rfl rfl) ?_
   refine zA4 ?_
   refine zB9 rfl rfl ?_
   refine zA5 (zA1 ?_)
   refine zA rfl (zA0 (v := .bool _) rfl) ?_
   refine zA rfl (zA2 (v := .bool _) rfl) ?_
   refine zA4 ?_
   refine zAf ?_
   refine zBg (v := .bool _) rfl rfl ?_
   exact ⟨_, rfl, rfl, hs.nil⟩
  ·
   intro h23
   have g23 := of_decide_eq_false h23
   refine zAk rfl rfl h23 ?_
   refine zA rfl (zA3 (o' := 1) uz41 rfl zDj rfl rfl rfl) ?_
   refine zAk rfl rfl h23 ?_
   refine zA rfl (zCe hs 0 (mfL m e o) rfl zBx zDj rfl rfl) ?_
   refine zAk rfl rfl h23 ?_
   refine zAa rfl en26 (wmani_sl hs (hm _)) ?_
   clear hs
   rintro _ w ⟨b, rfl, hb12, hs⟩
   refine zAk rfl rfl h23 ?_
   refine zA rfl (zBz rfl) ?_
   refine zA rfl (zAj (v := .bool _) rfl h23 rfl) ?_
   refine zA rfl (zA0 (v := .bool _) rfl) ?_
   refine zB4 (t := _) (d := 30) rfl ?_ ?_
   ·
    intro h27
    replace h27 := zEl h27
    refine zA9 rfl rfl rfl (zC7 h27) ?_
    refine zA9 rfl rfl rfl (zC7 h27) ?_
    refine zA9 rfl rfl rfl (zC7 h27) ?_
    refine zA9 rfl rfl rfl (zC7 h27) ?_
    refine zA9 rfl rfl rfl (zC7 h27) ?_
    refine zA rfl (zAi (v := .bool _) rfl (zC7 h27) rfl) ?_
    refine zA rfl (zA0 (v := .bool _) rfl) ?_
    refine zA9 rfl rfl rfl rfl ?_
    refine zA9 rfl rfl rfl rfl ?_
    refine zA rfl (zAi (v := .bool _) rfl rfl rfl) ?_
    refine zA4 ?_
    refine zB9 rfl rfl ?_
    refine zA5 (zA1 ?_)
    refine zA rfl (zA0 (v := .bool _) rfl) ?_
    refine zA rfl (zA2 (v := .bool _) rfl) ?_
    refine zA4 ?_
    refine zAf ?_
    refine zBg (v := .bool _) rfl rfl ?_
    exact ⟨_, rfl, rfl, hs.nil⟩
   ·
    intro h27
    replace h27 := zE h27
    refine zAk rfl rfl (zBu h27) ?_
    refine zA rfl (zA3 (o' := 1) uz41 rfl zDj rfl rfl rfl) ?_
    refine zAk rfl rfl (zBu h27) ?_
    refine zA rfl (zA3 zBx rfl sz36 rfl rfl rfl) ?_
    refine zAk rfl rfl (zBu h27) ?_
    refine zA rfl (zA7 zCq rfl rfl (hs.cellAt 0 rfl rfl)) ?_
    refine zAk rfl rfl (zBu h27) ?_
    refine zA rfl (zAx zCq rfl) ?_
    refine zAk rfl rfl (zBu h27) ?_
    refine zA rfl (zBi rfl rfl) ?_
    refine zA rfl (zAj (v := .bool _) rfl (zBu h27) rfl) ?_
    refine zA rfl (zA0 (v := .bool _) rfl) ?_
    refine zB4 (t := _) (d := 37) rfl ?_ ?_
    ·
     intro h35
     have g35 := of_decide_eq_true h35
     refine zA9 rfl rfl rfl h35 ?_
     refine zA9 rfl rfl rfl h35 ?_
     refine zA rfl (zAi (v := .bool _) rfl h35 rfl) ?_
     refine zA4 ?_
     refine zB9 rfl rfl ?_
     refine zA5 (zA1 ?_)
     refine zA rfl (zA0 (v := .bool _) rfl) ?_
     refine zA rfl (zA2 (v := .bool _) rfl) ?_
     refine zA4 ?_
     refine zAf ?_
     refine zBg (v := .bool _) rfl rfl ?_
     exact ⟨_, rfl, rfl, hs.nil⟩
    ·
     intro h35
     have g35 := of_decide_eq_false h35
     refine zAk rfl rfl h35 ?_
     refine zA rfl (zA0 (v := .bool _) rfl) ?_
     refine zAk rfl rfl h35 ?_
     refine zA rfl (zBz rfl) ?_
     refine zA rfl (zAj (v := .bool _) rfl h35 rfl) ?_
     refine zA4 ?_
     refine zB rfl (zBu (rfl)) ?_
     refine zAd ?_
     refine zA5 (zA1 ?_)
     refine zAa rfl en9 (newd_sl hs (r := 1048576) (by decide) (by decide)) ?_
     clear hs
     rintro _ w ⟨d, rfl, hs⟩
     refine zA rfl (zA0 (v := .tuple _) rfl) ?_
     refine zA rfl (zAc (v := .pointer (some _)) rfl rfl) ?_
     refine zA rfl (zAc (v := .nilIface) rfl rfl) ?_
     refine zA rfl (zA2 (v := .pointer (some _)) rfl) ?_
     refine zA rfl (zA2 (v := .nilIface) rfl) ?_
     refine zA4 ?_
     refine zA5 ?_
     refine zA5 (zA1 ?_)
     refine zA rfl (zA0 (v := .pointer (some _)) rfl) ?_
     refine zA rfl (zEv uz25 rfl rfl) ?_
     refine zA rfl (zA0 (v := .bool _) rfl) ?_
     refine zAk rfl rfl (rfl) ?_
     refine zA rfl (zA0 (v := .nilIface) rfl) ?_
     refine zAk rfl rfl (rfl) ?_
     refine zA rfl (zBj rfl) ?_
     refine zA rfl (zAj (v := .bool _) rfl (rfl) rfl) ?_
     refine zA4 ?_
     refine zB rfl (rfl) ?_
     refine zAd ?_
     refine zA5 ?_
     by_cases hev : 1 ≤ every ∧ every ≤ 4096
     ·
      obtain ⟨ev, hevn⟩ : ∃ ev : Nat, every = ev := ⟨every.toNat, by omega⟩
      subst hevn
      refine zA1 ?_
      refine zA rfl (zA0 (v := .pointer (some _)) rfl) ?_
      refine zA rfl (zA0 (v := .int .i64 _) rfl) ?_
      refine zAa rfl en10 (open0_sl hM (rm := 1048576) (ev := ev) (by decide) hs (by omega)) ?_
      clear hs
      rintro _ w ⟨p, dk0, rfl, k1, k2, k3, k4, hs⟩
      refine zA rfl (zA0 (v := .tuple _) rfl) ?_
      refine zA rfl (zAc (v := .pointer (some _)) rfl rfl) ?_
      refine zA rfl (zAc (v := .nilIface) rfl rfl) ?_
      refine zA rfl (zA2 (v := .pointer (some _)) rfl) ?_
      refine zA rfl (zA2 (v := .nilIface) rfl) ?_
      refine zA4 ?_
      refine zA5 ?_
      refine zA5 (zA1 ?_)
      refine zA rfl (zA0 (v := .int .i64 _) rfl) ?_
      refine zA rfl (zB3 rfl rfl) ?_
      refine zA rfl (zA0 (v := .bool _) rfl) ?_
      refine zAk rfl rfl (decide_eq_false (by omega)) ?_
      refine zA rfl (zA0 (v := .int .i64 _) rfl) ?_
      refine zAk rfl rfl (decide_eq_false (by omega)) ?_
      refine zA rfl (zBi rfl rfl) ?_
      refine zA rfl (zAj (v := .bool _) rfl (decide_eq_false (by omega)) rfl) ?_
      refine zA4 ?_
      refine zB rfl (decide_eq_false (by omega)) ?_
      refine zAd ?_
      refine zA5 ?_
      refine zA5 (zA1 ?_)
      refine zA rfl (zA0 (v := .pointer (some _)) rfl) ?_
      refine zA rfl (zEv uz30 rfl rfl) ?_
      refine zA rfl (zA0 (v := .bool _) rfl) ?_
      refine zAk rfl rfl (rfl) ?_
      refine zA rfl (zA0 (v := .nilIface) rfl) ?_
      refine zAk rfl rfl (rfl) ?_
      refine zA rfl (zBj rfl) ?_
      refine zA rfl (zAj (v := .bool _) rfl (rfl) rfl) ?_
      refine zA4 ?_
      refine zB rfl (rfl) ?_
      refine zAd ?_
      refine zA5 ?_
      refine zA5 (zA1 ?_)
      refine zA rfl (zA2 (v := .int .i64 _) rfl) ?_
      refine zA4 ?_
      refine zAt ?_
      refine zBr (X := Nat × Vw × Nat × Nat × Nat × (ByteArray → Option (List UInt8)) × Dk) [12, 82, 83, 84, 85, 86, 87, 88, 89, 90, 91, 92, 93, 94] (fun q => [(12, .int .i64 (q.1 : Nat))]) (fun q w => q.1 ≤ l.length ∧ LgK q.2.2.2.2.2.1 q.2.2.2.2.2.2 q.2.2.1 q.2.2.2.1 q.2.2.2.2.1 q.2.1 q.1 (100 * q.1 + 4) ∧ Mem g w [LogC p d ev q.2.1 q.2.2.1 q.2.2.2.1 q.2.2.2.2.1, zBv d q.2.2.2.2.2.2, cells b4 (.int .i64 kd :: mfL m e o) 41]) (fun q => l.length - q.1) ((0, [], 0, 0, 0, zDt (fun _ => none) mtN [], dk0)) ?_ ?_ ?_
      · exact ⟨rfl, trivial⟩
      · exact ⟨Nat.zero_le _, LgK.zero k1 k2 k3 k4, hs⟩
      clear hs
      rintro x ξ w hI
      obtain ⟨i, V, q, c, n, f, dk⟩ := x
      obtain ⟨hi, hK, hs⟩ := hI
      simp only at hi hK hs
      have hKq := hK.q
      have hKc := hK.cl
      have hKr := hK.r
      show cw _ _ _ _ _ _ (updL (mix _ ξ _) [(12, .int .i64 (i : Nat))]) w
      refine zA5 ?_
      refine zA5 (zA1 ?_)
      refine zA rfl (zA0 (v := .int .i64 _) rfl) ?_
      refine zA rfl (zA0 (v := .slice _ _ _) rfl) ?_
      refine zA rfl (zAx uz22 rfl) ?_
      refine zA rfl (zB3 rfl rfl) ?_
      refine zA4 ?_
      refine zB7 rfl ?_ ?_
      ·
       intro h85
       have g85 := of_decide_eq_true h85
       obtain ⟨z, hz⟩ : ∃ z, l[i]? = some z := ⟨_, List.getElem?_eq_getElem (by omega)⟩
       obtain ⟨b1, o1, rfl, _⟩ := (h0.rd _).cells' hs (by rw [intsL_len]; omega)
       refine zAd ?_
       refine zA5 ?_
       refine zAt ?_
       refine zA1 ?_
       refine zA rfl (zA0 (v := .pointer (some _)) rfl) ?_
       refine zA rfl (zA0 (v := .slice _ _ _) rfl) ?_
       refine zA rfl (zA0 (v := .int .i64 _) rfl) ?_
       refine zA rfl (zBo uz22 sz3 rfl rfl rfl (by omega) rfl) ?_
       refine zA rfl (zA7 uz3 rfl rfl ((h0.rd _).cellAt hs (intsL_at hz))) ?_
       refine zAa rfl en12 (entry17_sl hs z) ?_
       clear hs
       rintro _ w ⟨s1, s2, rfl, hs⟩
       simp only [mfP, List.cons_append, List.nil_append] at hs
       refine zAa rfl en13 (appU_sl hM (hs.arr [2, 3, 0, 1, 4] 5 (by decide)) hK.I hK.a hK.w (by omega) (by omega) (by omega) (x := (enz z).2) (e := s1) (o := s2) (MfR.own 0 1 rfl rfl) (enz_obs z) (enz_ok z).2.2.2) ?_
       clear hs
       rintro _ w ⟨f', dk', q', c', n', eb, rfl, hU, hs⟩
       refine zA4 ?_
       refine zA1 ?_
       refine zA rfl (zA0 (v := .int .i64 _) rfl) ?_
       refine zA rfl (zAp rfl rfl rfl (inI (by omega) (by omega))) ?_
       refine zA rfl (zA2 (v := .int .i64 _) rfl) ?_
       refine zA4 ?_
       exact ⟨(i + 1, (V.apply (enz z).1 (enz z).2).2, q', c', n', f', dk'), by simp only; omega, ⟨by simp only; omega, (hK.app hU).mono (Nat.le_refl _) (by omega), hs.arr [1, 2, 5] 6 (by decide)⟩, ⟨rfl, trivial⟩, by repeat (first | exact Out.mix _ _ _ | refine Out.updo rfl ?_ | refine Out.upd rfl ?_ | refine Out.mixIn rfl ?_)⟩
      ·
       intro h85
       have g85 := of_decide_eq_false h85
       refine zBk rfl ?_
       refine zA5 (zA1 ?_)
       refine zA rfl (zA0 (v := .pointer (some _)) rfl) ?_
       refine zAa rfl en29 (dcalls_sl (hs.arr [1, 0, 2] 3 (by decide))) ?_
       clear hs
       rintro _ w ⟨rfl, hs⟩
       refine zA rfl (zA2 (v := .int .i64 _) rfl) ?_
       refine zA4 (zA5 (zA1 ?_))
       refine zA rfl (zA0 (v := .pointer (some _)) rfl) ?_
       refine zAa rfl en20 (seq_sl (hs.arr [1, 0, 2] 3 (by decide))) ?_
       clear hs
       rintro _ w ⟨rfl, hs⟩
       replace hs : Mem g w [LogC p d ev V q c n, zBv d dk, cells b4 (.int .i64 kd :: mfL m e o) 41] := hs
       refine zA rfl (zA2 (v := .int .i64 _) rfl) ?_
       refine zA4 (zA5 (zA1 ?_))
       refine zA rfl (zA0 (v := .pointer (some _)) rfl) ?_
       refine zAa rfl en21 (lview_sl hs) ?_
       clear hs
       rintro _ w ⟨u, rfl, hs⟩
       refine zA rfl (zA2 (v := .pointer (some _)) rfl) ?_
       refine zA4 (zA5 (zA1 ?_))
       refine zA rfl (zA0 (v := .pointer (some _)) rfl) ?_
       refine zA rfl (zBc hs 3 rfl uz41 sz41 rfl) ?_
       refine zAa rfl en14 (applyq_sl hM.toV hs kd (x := m) (e := e) (o := o) (hm _) (by have := hb12 h27; omega)) ?_
       clear hs
       rintro _ w ⟨eb1, rfl, hs⟩
       refine zA rfl (zA2 (v := flV ad _ _) rfl) ?_
       refine zA4 (zA5 (zA1 ?_))
       refine zA rfl (zA0 (v := .pointer (some _)) rfl) ?_
       refine zA rfl (zBc hs 4 rfl uz41 sz41 rfl) ?_
       refine zAa rfl en13 (appU_sl hM (hs.arr [2, 3, 0, 1, 4] 5 (by decide)) hK.I hK.a hK.w (by omega) (by omega) (by omega) (x := m) (e := e) (o := o) (hm _) (by have := hb12 h27; omega) hu) ?_
       clear hs
       rintro _ w ⟨f', dk', q', c', n', eb2, rfl, hU, hs⟩
       have hfa := apply_fltA V kd m
       refine zA rfl (zA2 (v := flV ad _ _) rfl) ?_
       refine zA4 ?_
       refine zA5 ?_
       refine zA5 ?_
       obtain hap | hap := V.apply_two kd m
       ·
        refine zA1 ?_
        refine zA rfl (zA0 (v := flV ad _ _) rfl) ?_
        refine zA rfl (run_neF (f := (V.apply kd m).1) (eb := eb1) (.inl (by rw [hap])) rfl) ?_
        refine zA4 ?_
        refine zB rfl ((by rw [hap]; rfl)) ?_
        refine zAd ?_
        refine zA5 ?_
        obtain ⟨_, hq9, _⟩ := hU.2.2.2.2.2.resolve_left (fun h => h.1 (by rw [hap]))
        refine zA1 ?_
        refine zA rfl (zA0 (v := flV ad _ _) rfl) ?_
        refine zA rfl (run_eqF (f := (V.apply kd m).1) (eb := eb2) (.inl (by rw [hap])) rfl) ?_
        refine zA rfl (zA0 (v := .bool _) rfl) ?_
        refine zAk rfl rfl ((decide_eq_true (by rw [hap]))) ?_
        refine zA rfl (zA0 (v := .pointer (some _)) rfl) ?_
        refine zAk rfl rfl ((decide_eq_true (by rw [hap]))) ?_
        refine zAa rfl en20 (seq_sl (hs.arr [1, 2, 4] 6 (by decide))) ?_
        clear hs
        rintro _ w ⟨rfl, hs⟩
        replace hs : Mem g w [LogC p d ev (V.apply kd m).2 q' c' n', zBv d dk', zD8 u (V.apply kd m).2] := hs
        refine zAk rfl rfl ((decide_eq_true (by rw [hap]))) ?_
        refine zA rfl (zA0 (v := .int .i64 _) rfl) ?_
        refine zAk rfl rfl ((decide_eq_true (by rw [hap]))) ?_
        refine zA rfl (zAp rfl rfl (c := ((q + 1 : Nat) : Int)) (by omega) (inI (by omega) (by omega))) ?_
        refine zAk rfl rfl ((decide_eq_true (by rw [hap]))) ?_
        refine zA rfl (zBq rfl rfl) ?_
        refine zA rfl (zAi (v := .bool _) rfl ((decide_eq_true (by rw [hap]))) rfl) ?_
        refine zA rfl (zA0 (v := .bool _) rfl) ?_
        refine zAk rfl rfl ((decide_eq_true (by rw [hq9]))) ?_
        refine zA rfl (zA0 (v := .pointer (some _)) rfl) ?_
        refine zAk rfl rfl ((decide_eq_true (by rw [hq9]))) ?_
        refine zAa rfl en21 (lview_sl hs) ?_
        clear hs
        rintro _ w ⟨u3, rfl, hs⟩
        refine zAk rfl rfl ((decide_eq_true (by rw [hq9]))) ?_
        refine zA rfl (zA0 (v := .pointer (some _)) rfl) ?_
        refine zAk rfl rfl ((decide_eq_true (by rw [hq9]))) ?_
        refine zAa rfl en22 (sameq_sl (hs.arr [0, 3, 1, 2] 4 (by decide))) ?_
        clear hs
        rintro _ w ⟨⟨b9, rfl, hb9⟩, hs⟩
        obtain rfl : b9 = true := hb9.2 (EqV.rfl' _)
        refine zA rfl (zAi (v := .bool _) rfl ((decide_eq_true (by rw [hq9]))) rfl) ?_
        refine zA rfl (zA2 (v := .bool _) rfl) ?_
        refine zA4 ?_
        refine zAf ?_
        refine zBg (v := .bool _) rfl rfl ?_
        exact ⟨_, rfl, rfl, hs.nil⟩
       ·
        refine zA1 ?_
        refine zA rfl (zA0 (v := flV ad _ _) rfl) ?_
        refine zA rfl (run_neF (f := (V.apply kd m).1) (eb := eb1) (.inr hap) rfl) ?_
        refine zA4 ?_
        refine zB9 rfl ((by simp [hap])) ?_
        refine zA5 ?_
        obtain ⟨_, rfl, rfl, rfl, rfl, rfl⟩ := hU.2.2.2.2.2.resolve_right (fun h => hap (by rw [h.1]))
        refine zA1 ?_
        refine zA rfl (zA0 (v := flV ad _ _) rfl) ?_
        refine zA rfl (zA0 (v := flV ad _ _) rfl) ?_
        refine zAa rfl en25 (faultF_sl hA hfa (hs.arr [3, 0, 1, 2, 4, 5] 6 (by decide))) ?_
        clear hs
        rintro _ w ⟨rfl, hs⟩
        refine zAa rfl en24 (sameFt_sl hA hfa (hs.arr [1, 0, 2, 3, 4, 5] 6 (by decide))) ?_
        clear hs
        rintro _ w ⟨rfl, hs⟩
        refine zA rfl (zA0 (v := .bool _) rfl) ?_
        refine zAk rfl rfl (rfl) ?_
        refine zA rfl (zA0 (v := .pointer (some _)) rfl) ?_
        refine zAk rfl rfl (rfl) ?_
        refine zAa rfl en29 (dcalls_sl (hs.arr [3, 0, 1, 2, 4, 5] 6 (by decide))) ?_
        clear hs
        rintro _ w ⟨rfl, hs⟩
        refine zAk rfl rfl (rfl) ?_
        refine zA rfl (zA0 (v := .int .i64 _) rfl) ?_
        refine zAk rfl rfl (rfl) ?_
        refine zA rfl (zBq rfl rfl) ?_
        refine zA rfl (zAi (v := .bool _) rfl (rfl) rfl) ?_
        refine zA rfl (zA0 (v := .bool _) rfl) ?_
        refine zAk rfl rfl ((by simp)) ?_
        refine zA rfl (zA0 (v := .pointer (some _)) rfl) ?_
        refine zAk rfl rfl ((by simp)) ?_
        refine zAa rfl en20 (seq_sl (hs.arr [3] 6 (by decide))) ?_
        clear hs
        rintro _ w ⟨rfl, hs⟩
        refine zAk rfl rfl ((by simp)) ?_
        refine zA rfl (zA0 (v := .int .i64 _) rfl) ?_
        refine zAk rfl rfl ((by simp)) ?_
        refine zA rfl (zBq rfl rfl) ?_
        refine zA rfl (zAi (v := .bool _) rfl ((by simp)) rfl) ?_
        refine zA rfl (zA2 (v := .bool _) rfl) ?_
        refine zA4 ?_
        refine zAf ?_
        refine zBg (v := .bool _) rfl rfl ?_
        exact ⟨_, rfl, zCp (by simp), hs.nil⟩
     ·
      refine zA1 ?_
      refine zA rfl (zA0 (v := .pointer (some _)) rfl) ?_
      refine zA rfl (zA0 (v := .int .i64 _) rfl) ?_
      refine zAa rfl en10 (openNo_sl hM.toV hs (by omega)) ?_
      clear hs
      rintro _ w ⟨rfl, hs⟩
      refine zA rfl (zA0 (v := .tuple _) rfl) ?_
      refine zA rfl (zAc (v := .pointer none) rfl rfl) ?_
      refine zA rfl (zAc (v := zAo ad _) rfl rfl) ?_
      refine zA rfl (zA2 (v := .pointer none) rfl) ?_
      refine zA rfl (zA2 (v := zAo ad _) rfl) ?_
      refine zA4 ?_
      refine zA5 ?_
      refine zA5 ?_
      by_cases hlo : every < 1
      ·
       refine zA1 ?_
       refine zA rfl (zA0 (v := .int .i64 _) rfl) ?_
       refine zA rfl (zB3 rfl rfl) ?_
       refine zA rfl (zA0 (v := .bool _) rfl) ?_
       refine zA9 rfl rfl rfl (decide_eq_true hlo) ?_
       refine zA9 rfl rfl rfl (decide_eq_true hlo) ?_
       refine zA rfl (zAi (v := .bool _) rfl (decide_eq_true hlo) rfl) ?_
       refine zA4 ?_
       refine zB9 rfl rfl ?_
       refine zA5 (zA1 ?_)
       refine zA rfl (zA0 (v := .pointer none) rfl) ?_
       refine zA rfl (zEv uz30 rfl rfl) ?_
       refine zA rfl (zA0 (v := .bool _) rfl) ?_
       refine zAk rfl rfl (rfl) ?_
       refine zA rfl (zA0 (v := zAo ad _) rfl) ?_
       refine zAk rfl rfl (rfl) ?_
       refine zAa rfl en27 (isA_sl hA hs (d := 105) (.inr (by decide)) 105) ?_
       clear hs
       rintro _ w ⟨rfl, hs⟩
       refine zA rfl (zAi (v := .bool _) rfl (rfl) rfl) ?_
       refine zA rfl (zA0 (v := .bool _) rfl) ?_
       refine zAk rfl rfl (rfl) ?_
       refine zA rfl (zA0 (v := .pointer (some _)) rfl) ?_
       refine zAk rfl rfl (rfl) ?_
       refine zAa rfl en28 (list_sl hs (by intro x hx; cases hx) (by simp [Dk.empty])) ?_
       clear hs
       rintro _ w ⟨a72, c72, rfl, hs⟩
       refine zAk rfl rfl (rfl) ?_
       refine zA rfl (zAx uz62 rfl) ?_
       refine zAk rfl rfl (rfl) ?_
       refine zA rfl (zBq rfl rfl) ?_
       refine zA rfl (zAi (v := .bool _) rfl (rfl) rfl) ?_
       refine zA rfl (zA2 (v := .bool _) rfl) ?_
       refine zA4 ?_
       refine zAf ?_
       refine zBg (v := .bool _) rfl rfl ?_
       exact ⟨_, rfl, zCp (decide_eq_true (by rw [sortT_len]; rfl)), hs.nil⟩
      ·
       refine zA1 ?_
       refine zA rfl (zA0 (v := .int .i64 _) rfl) ?_
       refine zA rfl (zB3 rfl rfl) ?_
       refine zA rfl (zA0 (v := .bool _) rfl) ?_
       refine zAk rfl rfl (decide_eq_false hlo) ?_
       refine zA rfl (zA0 (v := .int .i64 _) rfl) ?_
       refine zAk rfl rfl (decide_eq_false hlo) ?_
       refine zA rfl (zBi rfl rfl) ?_
       refine zA rfl (zAj (v := .bool _) rfl (decide_eq_false hlo) rfl) ?_
       refine zA4 ?_
       refine zB9 rfl (decide_eq_true (by omega)) ?_
       refine zA5 (zA1 ?_)
       refine zA rfl (zA0 (v := .pointer none) rfl) ?_
       refine zA rfl (zEv uz30 rfl rfl) ?_
       refine zA rfl (zA0 (v := .bool _) rfl) ?_
       refine zAk rfl rfl (rfl) ?_
       refine zA rfl (zA0 (v := zAo ad _) rfl) ?_
       refine zAk rfl rfl (rfl) ?_
       refine zAa rfl en27 (isA_sl hA hs (d := 105) (.inr (by decide)) 105) ?_
       clear hs
       rintro _ w ⟨rfl, hs⟩
       refine zA rfl (zAi (v := .bool _) rfl (rfl) rfl) ?_
       refine zA rfl (zA0 (v := .bool _) rfl) ?_
       refine zAk rfl rfl (rfl) ?_
       refine zA rfl (zA0 (v := .pointer (some _)) rfl) ?_
       refine zAk rfl rfl (rfl) ?_
       refine zAa rfl en28 (list_sl hs (by intro x hx; cases hx) (by simp [Dk.empty])) ?_
       clear hs
       rintro _ w ⟨a72, c72, rfl, hs⟩
       refine zAk rfl rfl (rfl) ?_
       refine zA rfl (zAx uz62 rfl) ?_
       refine zAk rfl rfl (rfl) ?_
       refine zA rfl (zBq rfl rfl) ?_
       refine zA rfl (zAi (v := .bool _) rfl (rfl) rfl) ?_
       refine zA rfl (zA2 (v := .bool _) rfl) ?_
       refine zA4 ?_
       refine zAf ?_
       refine zBg (v := .bool _) rfl rfl ?_
       exact ⟨_, rfl, zCp (decide_eq_true (by rw [sortT_len]; rfl)), hs.nil⟩
end Go.Proofs.YtdkgdjnbpjjfmaaGreatDoor
