/- The law MlogKeeps: entries that were appended are there behind a crash at any call. -/
import Derived.Test.YtdkgdjnbpjjfmaaGreatDoorK6
namespace Go.Proofs.YtdkgdjnbpjjfmaaGreatDoor
set_option linter.all false
open Go.RowKit
attribute [local irreducible] zAq eV
variable {g w : World} {L M : List HP} {ad : Nat → Addr}

attribute [local irreducible] enz Vw.apply
set_option maxHeartbeats 2000000 in
set_option maxRecDepth 10000 in
theorem mlogKeeps_sl (hA : ErrA ad g) (hs : Mem g w []) {a0 a3 : Option Addr} {n0 c0 n3 c3 : Nat} {l picks : List Int} (h0 : Came g (.slice a0 n0 c0) (intsL l)) (e0 : n0 = l.length) (every arm : Int) (h3 : Came g (.slice a3 n3 c3) (intsL picks)) (e3 : n3 = picks.length) : Calls Tryz.prog 7 #[.slice a0 n0 c0, .int .i64 every, .int .i64 arm, .slice a3 n3 c3] w (Ret fun v w' => v = .bool true ∧ Mem g w' []) := by
  subst e0
  subst e3
  have hM : ErrM ad g := Errs.sub hA (fun c hc => by simp only [zFo, zBr, List.mem_cons, List.not_mem_nil, or_false] at *; omega)
  refine zAl Tryz.func7 rfl rfl ?_
  skip
  refine zA5 (zA1 ?_)
  refine zA rfl (zA2 (v := .bool _) rfl) ?_
  refine zA4 (zA5 (zA1 ?_))
  refine zA9 rfl en8 (first17_sl hM hs) ?_
  clear hs
  rintro _ w ⟨rfl, hs⟩
  refine zA rfl (zA2 (v := .bool _) rfl) ?_
  refine zA4 ?_
  refine zA5 ?_
  refine zA5 (zA1 ?_)
  refine zA rfl (zA0 (v := .bool _) rfl) ?_
  refine zA rfl (zBm rfl) ?_
  refine zA4 ?_
  refine zAv rfl (zBg (rfl)) ?_
  refine zAd ?_
  refine zA5 (zA1 ?_)
  refine zA rfl (zA0 (v := .int .i64 _) rfl) ?_
  refine zA9 rfl en17 (zFq hs every 6 (by decide)) ?_
  clear hs
  rintro _ w ⟨rfl, hr6, hs⟩
  obtain ⟨ev, hev⟩ : ∃ ev, ev = (every % ((6 : Nat) : Int)).toNat + 1 := ⟨_, rfl⟩
  have hev6 : 1 ≤ ev ∧ ev ≤ 6 := by omega
  refine zA rfl (zAn rfl rfl (c := ((ev : Nat) : Int)) (by omega) (inI (by omega) (by omega))) ?_
  refine zA rfl (zA2 (v := .int .i64 _) rfl) ?_
  refine zA4 ?_
  refine zA5 ?_
  refine zA5 (zA1 ?_)
  refine zA rfl (zA0 (v := .slice _ _ _) rfl) ?_
  refine zA rfl (zAw uz22 rfl) ?_
  refine zA rfl (zBq rfl rfl) ?_
  refine zA rfl (zA0 (v := .bool _) rfl) ?_
  refine zB8 (t := _) (d := 36) rfl ?_ ?_
  ·
   intro h35
   have g35 := of_decide_eq_true h35
   refine zAc rfl rfl rfl h35 ?_
   refine zAc rfl rfl rfl h35 ?_
   refine zAc rfl rfl rfl h35 ?_
   refine zA rfl (zAj (v := .bool _) rfl h35 rfl) ?_
   refine zA rfl (zA0 (v := .bool _) rfl) ?_
   refine zAc rfl rfl rfl rfl ?_
   refine zAc rfl rfl rfl rfl ?_
   refine zA rfl (zAj (v := .bool _) rfl rfl rfl) ?_
   refine zA4 ?_
   refine zBa rfl rfl ?_
   refine zA5 (zA1 ?_)
   refine zA rfl (zA0 (v := .bool _) rfl) ?_
   refine zA rfl (zA2 (v := .bool _) rfl) ?_
   refine zA4 ?_
   refine zAf ?_
   refine zBj (v := .bool _) rfl rfl ?_
   exact ⟨_, rfl, rfl, hs⟩
  ·
   intro h35
   have g35 := of_decide_eq_false h35
   refine zAi rfl rfl h35 ?_
   refine zA rfl (zA0 (v := .slice _ _ _) rfl) ?_
   refine zAi rfl rfl h35 ?_
   refine zA rfl (zAw uz22 rfl) ?_
   refine zAi rfl rfl h35 ?_
   refine zA rfl (zBq rfl rfl) ?_
   refine zA rfl (zAk (v := .bool _) rfl h35 rfl) ?_
   refine zA rfl (zA0 (v := .bool _) rfl) ?_
   refine zB8 (t := _) (d := 41) rfl ?_ ?_
   ·
    intro h39
    have g39 := of_decide_eq_true h39
    refine zAc rfl rfl rfl h39 ?_
    refine zAc rfl rfl rfl h39 ?_
    refine zA rfl (zAj (v := .bool _) rfl h39 rfl) ?_
    refine zA4 ?_
    refine zBa rfl rfl ?_
    refine zA5 (zA1 ?_)
    refine zA rfl (zA0 (v := .bool _) rfl) ?_
    refine zA rfl (zA2 (v := .bool _) rfl) ?_
    refine zA4 ?_
    refine zAf ?_
    refine zBj (v := .bool _) rfl rfl ?_
    exact ⟨_, rfl, rfl, hs⟩
   ·
    intro h39
    have g39 := of_decide_eq_false h39
    refine zAi rfl rfl h39 ?_
    refine zA rfl (zA0 (v := .bool _) rfl) ?_
    refine zAi rfl rfl h39 ?_
    refine zA rfl (zBm rfl) ?_
    refine zA rfl (zAk (v := .bool _) rfl h39 rfl) ?_
    refine zA4 ?_
    refine zAv rfl (zBg (rfl)) ?_
    refine zAd ?_
    refine zA5 (zA1 ?_)
    refine zA9 rfl en9 (newd_sl hs (r := 1048576) (by decide) (by decide)) ?_
    clear hs
    rintro _ w ⟨d, rfl, hs⟩
    refine zA rfl (zA0 (v := .tuple _) rfl) ?_
    refine zA rfl (zAa (v := .pointer (some _)) rfl rfl) ?_
    refine zA rfl (zAa (v := .nilIface) rfl rfl) ?_
    refine zA rfl (zA2 (v := .pointer (some _)) rfl) ?_
    refine zA rfl (zA2 (v := .nilIface) rfl) ?_
    refine zA4 ?_
    refine zA5 ?_
    refine zA5 (zA1 ?_)
    refine zA rfl (zA0 (v := .pointer (some _)) rfl) ?_
    refine zA rfl (zEa uz25 rfl rfl) ?_
    refine zA rfl (zA0 (v := .bool _) rfl) ?_
    refine zAi rfl rfl (rfl) ?_
    refine zA rfl (zA0 (v := .nilIface) rfl) ?_
    refine zAi rfl rfl (rfl) ?_
    refine zA rfl (zBi rfl) ?_
    refine zA rfl (zAk (v := .bool _) rfl (rfl) rfl) ?_
    refine zA4 ?_
    refine zAv rfl (rfl) ?_
    refine zAd ?_
    refine zA5 (zA1 ?_)
    refine zA rfl (zA0 (v := .pointer (some _)) rfl) ?_
    refine zA rfl (zA0 (v := .int .i64 _) rfl) ?_
    refine zA9 rfl en10 (open0_sl hM (rm := 1048576) (ev := ev) (by decide) hs (by omega)) ?_
    clear hs
    rintro _ w ⟨p, dk0, rfl, k1, k2, k3, k4, hs⟩
    refine zA rfl (zA0 (v := .tuple _) rfl) ?_
    refine zA rfl (zAa (v := .pointer (some _)) rfl rfl) ?_
    refine zA rfl (zAa (v := .nilIface) rfl rfl) ?_
    refine zA rfl (zA2 (v := .pointer (some _)) rfl) ?_
    refine zA rfl (zA2 (v := .nilIface) rfl) ?_
    refine zA4 ?_
    refine zA5 ?_
    refine zA5 (zA1 ?_)
    refine zA rfl (zA0 (v := .pointer (some _)) rfl) ?_
    refine zA rfl (zEa uz30 rfl rfl) ?_
    refine zA rfl (zA0 (v := .bool _) rfl) ?_
    refine zAi rfl rfl (rfl) ?_
    refine zA rfl (zA0 (v := .nilIface) rfl) ?_
    refine zAi rfl rfl (rfl) ?_
    refine zA rfl (zBi rfl) ?_
    refine zA rfl (zAk (v := .bool _) rfl (rfl) rfl) ?_
    refine zA4 ?_
    refine zAv rfl (rfl) ?_
    refine zAd ?_
    refine zA5 (zA1 ?_)
    refine zA9 rfl en11 (newq_sl hs) ?_
    clear hs
    rintro _ w ⟨px, rfl, hs⟩
    refine zA rfl (zA2 (v := .pointer (some _)) rfl) ?_
    refine zA4 (zA5 (zA1 ?_))
    refine zA rfl (zA2 (v := .int .i64 _) rfl) ?_
    refine zA4 (zA5 (zA1 ?_))
    refine zA rfl (zA0 (v := .pointer (some _)) rfl) ?_
    refine zA rfl (zA0 (v := .int .i64 _) rfl) ?_
    refine zA9 rfl en17 (zFq hs arm 80 (by decide)) ?_
    clear hs
    rintro _ w ⟨rfl, ha80, hs⟩
    generalize (arm % ((80 : Nat) : Int)).toNat = am at ha80 ⊢
    refine zA9 rfl en30 (arm_sl (hs.arr [2, 0, 1] 3 (by decide)) am (by omega)) ?_
    clear hs
    rintro _ w ⟨rfl, hs⟩
    have hok := (hs.openD).1
    replace hs : Mem g w [zBn d { dk0 with armed := am }, zCd px [], LogC p d ev [] 0 0 0] := hs
    refine zA4 (zA5 (zA1 ?_))
    refine zBd hs rfl ze41 ?_
    clear hs
    intro b16 w hs
    try simp only [List.set_cons_succ, List.set_cons_zero] at hs
    refine zA4 ?_
    refine zA5 ?_
    refine zA5 (zA1 ?_)
    refine zA rfl (zA2 (v := .int .i64 _) rfl) ?_
    refine zA4 ?_
    refine zAt ?_
    refine zBs (X := Nat × Vw × Nat × (Vw × Nat × Nat × Nat) × En × Dk) [8, 15, 17, 18, 19, 20, 73, 74, 75, 76, 77, 78, 79, 80, 81, 82, 83, 84, 85, 86, 87, 88, 89, 90, 91, 92, 93, 94, 95, 96, 97, 98, 99, 100, 101, 102, 103, 104, 105, 106, 107, 108, 109, 110, 111, 112, 113, 114, 115, 116, 117, 118, 119, 120, 121, 122, 123, 124, 125, 126, 127, 128, 129, 130, 131, 132, 133, 134, 135] (fun x => [(17, .int .i64 (x.1 : Nat)), (15, .int .i64 (x.2.2.1 : Nat))]) (fun x w => x.1 ≤ l.length ∧ KpI x.2.2.2.2.2 x.2.1 x.2.2.1 x.2.2.2.1.1 x.2.2.2.1.2.1 x.2.2.2.1.2.2.1 x.2.2.2.1.2.2.2 x.2.2.2.2.1 x.1 ∧ Mem g w [LogC p d ev x.2.2.2.1.1 x.2.2.2.1.2.1 x.2.2.2.1.2.2.1 x.2.2.2.1.2.2.2, zBn d x.2.2.2.2.2, zCd px x.2.1, zFm b16 x.2.2.2.2.1]) (fun x => l.length - x.1) ((0, [], 0, ([], 0, 0, 0), (0, Mf.z), { dk0 with armed := am })) ?_ ?_ ?_
    · exact ⟨rfl, rfl, trivial⟩
    · exact ⟨Nat.zero_le _, ⟨k2, by simp only; omega, Nat.le_refl _, .inl ⟨k4.up, rfl, rfl, rfl, _, k4.arm hok, LgW.zero⟩⟩, (Mem.zeroLast hs).arr [3, 1, 2, 0] 4 (by decide)⟩
    clear hs
    rintro x ξ w hI
    obtain ⟨i, V, q, ⟨V', q', c, n⟩, last, dk⟩ := x
    obtain ⟨hi, hK, hs⟩ := hI
    simp only at hi hK hs
    have hKq := hK.hq
    have hKc := hK.cl
    have hKr := hK.room
    show cw _ _ _ _ _ _ (updL (mix _ ξ _) [(17, .int .i64 (i : Nat)), (15, .int .i64 (q : Nat))]) w
    refine zA5 ?_
    refine zA5 (zA1 ?_)
    refine zA rfl (zA0 (v := .int .i64 _) rfl) ?_
    refine zA rfl (zA0 (v := .slice _ _ _) rfl) ?_
    refine zA rfl (zAw uz22 rfl) ?_
    refine zA rfl (zB4 rfl rfl) ?_
    refine zA rfl (zA0 (v := .bool _) rfl) ?_
    refine zB8 (t := _) (d := 77) rfl ?_ ?_
    ·
     intro h76
     have g76 := of_decide_eq_true h76
     obtain ⟨z, hz⟩ : ∃ z, l[i]? = some z := ⟨_, List.getElem?_eq_getElem (by omega)⟩
     obtain ⟨b1, o1, rfl, _⟩ := (h0.rd _).cells' hs (by rw [intsL_len]; omega)
     refine zAi rfl rfl h76 ?_
     refine zA rfl (zA0 (v := .pointer (some _)) rfl) ?_
     refine zAi rfl rfl h76 ?_
     refine zA9 rfl en31 (down_sl (hs.arr [1, 0, 2, 3] 4 (by decide))) ?_
     clear hs
     rintro _ w ⟨rfl, hs⟩
     replace hs : Mem g w [zBn d dk, LogC p d ev V' q' c n, zCd px V, zFm b16 last] := hs
     refine zAi rfl rfl h76 ?_
     refine zA rfl (zBm rfl) ?_
     refine zA rfl (zAj (v := .bool _) rfl h76 rfl) ?_
     refine zA4 ?_
     refine zB7 rfl ?_ ?_
     ·
      intro h79
      replace h79 := zF h79
      obtain ⟨hl0, hv, hq9, f, hI, hW⟩ := hK.up h79
      have hv := hv.symm
      subst hv
      have hq9 := hq9.symm
      subst hq9
      have hfa := apply_fltA V (enz z).1 (enz z).2
      refine zAd ?_
      refine zA5 ?_
      refine zAt ?_
      refine zA5 (zA1 ?_)
      refine zA rfl (zA0 (v := .slice _ _ _) rfl) ?_
      refine zA rfl (zA0 (v := .int .i64 _) rfl) ?_
      refine zA rfl (zBl uz22 sz3 rfl rfl rfl (by omega) rfl) ?_
      refine zA rfl (zA7 uz3 rfl rfl ((h0.rd _).cellAt hs (intsL_at hz))) ?_
      refine zA9 rfl en12 (entry17_sl hs z) ?_
      clear hs
      rintro _ w ⟨s1, s2, rfl, hs⟩
      simp only [mfP, List.cons_append, List.nil_append] at hs
      refine zBd hs rfl ze41 ?_
      clear hs
      intro b18 w hs
      try simp only [List.set_cons_succ, List.set_cons_zero] at hs
      refine zAp hs 0 rfl rfl rfl sz41 rfl rfl ?_
      clear hs
      intro w hs
      try simp only [List.set_cons_succ, List.set_cons_zero] at hs
      refine zA4 ?_
      refine zA5 ?_
      refine zAz zBx hs ?_
      intro w tr hK
      replace hs := tr _ hs
      clear tr
      refine zA6 0 rfl rfl (fun w hs => zA0 (v := .pointer (some _)) rfl) hK ?_
      refine zA6 2 rfl rfl (fun w hs => zB3 hs 0 rfl zF1 sz41 rfl) hK ?_
      refine zAb [1] ?_
      refine ⟨⟨_, rfl, ?_⟩, trivial⟩
      refine zA9 rfl en16 (zFk (hs.arr [5, 0, 1, 2, 3, 4, 6] 7 (by decide))) ?_
      clear hs
      rintro _ w ⟨u, rfl, hs⟩
      clear hK
      have hK := hs.arr [2, 3, 4, 5, 6, 1, 7] 8 (by decide)
      refine zA4 ⟨hK, ?_⟩
      refine zAb [3] ?_
      refine ⟨⟨_, rfl, ?_⟩, trivial⟩
      refine zA9 rfl en14 (zDs hM.toV hs (enz z).1 (x := (enz z).2) (e := s1) (o := s2) (MfR.own 2 3 rfl rfl) (enz_obs z)) ?_
      clear hs
      rintro _ w ⟨eb1, rfl, hs⟩
      clear hK
      have hK := hs.arr [3, 4, 5, 6, 7, 2, 8] 9 (by decide)
      refine zA4 ⟨hK, ?_⟩
      refine zA6 4 rfl rfl (fun w hs => zA2 (v := flV ad _ _) rfl) hK ?_
      refine zAu (by kernel_rfl) ?_
      clear hK
      have h9 := hs.arr [7, 6, 4, 5, 2, 8, 3, 0] 9 (by decide)
      clear hs
      have hs : Mem g w [LogC p d ev V q c n, zBn d dk, zEk 2 (.slice s1.1 (enz z).2.eps.length s1.2) ((enz z).2.eps.map prL), zEk 3 (.slice s2.1 (enz z).2.obs.length s2.2) ((enz z).2.obs.map obL), zCd px V, zFm b16 last, cells b18 (.int .i64 (enz z).1 :: mfL (enz z).2 s1 s2) 41, flC ad (V.apply (enz z).1 (enz z).2).1 eb1] := h9
      refine zA5 ?_
      obtain hap | hap := V.apply_two (enz z).1 (enz z).2
      ·
       obtain ⟨V0, q0, es, hSt, hq0, hc0, hn0⟩ := hW
       subst hc0
       have hes := zDn es q0 hSt.ens
       have hpr := hSt.props
       refine zA1 ?_
       refine zA rfl (zA0 (v := .pointer (some _)) rfl) ?_
       refine zA rfl (zB3 hs 6 rfl zF1 sz41 rfl) ?_
       refine zA9 rfl en13 (appOk_sl hM hs hI hSt.file hn0 (by omega) (by omega) hpr.2.1 (by omega) (by omega) (by omega) (by omega) (MfR.own 0 1 rfl rfl) (enz_obs z) (enz_ok z).2.2.2 hap) ?_
       clear hs
       rintro _ w ⟨kr, dk2, V2, q2, c2, n2, rfl, hOut, hs⟩
       refine zA rfl (zA2 (v := zAq ad _) rfl) ?_
       refine zA4 ?_
       refine zA5 ?_
       refine zA5 ?_
       obtain ⟨rfl, hd2, hV2, hq2, hK2⟩ | ⟨rfl, hd2, hK2⟩ | ⟨rfl, hd2, hK2⟩ := hK.step h79 (by omega) (enz_ok z) hap hSt hq0 hOut
       ·
        refine zA1 ?_
        refine zA rfl (zA0 (v := zAq ad _) rfl) ?_
        refine zA rfl (zCn (ad := ad) rfl) ?_
        refine zA4 ?_
        refine zBa rfl (rfl) ?_
        refine zA5 ?_
        refine zA5 (zA1 ?_)
        refine zA rfl (zA0 (v := .pointer (some _)) rfl) ?_
        refine zA rfl (zB3 hs 6 rfl zF1 sz41 rfl) ?_
        refine zA9 rfl en14 (zDs hM.toV (hs.arr [4, 0, 1, 2, 3, 5, 6, 7] 8 (by decide)) (enz z).1 (x := (enz z).2) (e := s1) (o := s2) (MfR.own 2 3 rfl rfl) (enz_obs z)) ?_
        clear hs
        rintro _ w ⟨eb3, rfl, hs⟩
        rw [hap] at hs ⊢
        refine zA rfl (zAy (ad := ad) rfl) ?_
        refine zA4 ?_
        refine zAv rfl (rfl) ?_
        refine zAd ?_
        refine zA1 ?_
        refine zA rfl (zA0 (v := .int .i64 _) rfl) ?_
        refine zA rfl (zAn rfl rfl (c := ((q + 1 : Nat) : Int)) (by omega) (inI (by omega) (by omega))) ?_
        refine zA rfl (zA2 (v := .int .i64 _) rfl) ?_
        refine zA4 (zA5 (zA1 ?_))
        refine zA rfl (zA0 (v := .pointer (some _)) rfl) ?_
        refine zA9 rfl en31 (down_sl (hs.arr [3, 1, 2, 6] 9 (by decide))) ?_
        clear hs
        rintro _ w ⟨rfl, hs⟩
        replace hs : Mem g w [zBn d dk2, zCd px (V.apply (enz z).1 (enz z).2).2, LogC p d ev V2 q2 c2 n2, zFm b16 last] := hs
        refine zA rfl (zBm rfl) ?_
        refine zA rfl (zA0 (v := .bool _) rfl) ?_
        refine zAi rfl rfl (zBy (hd2)) ?_
        refine zA rfl (zA0 (v := .pointer (some _)) rfl) ?_
        refine zAi rfl rfl (zBy (hd2)) ?_
        refine zA9 rfl en21 (zEb (hs.arr [2, 0, 1, 3] 4 (by decide))) ?_
        clear hs
        rintro _ w ⟨u2, rfl, hs⟩
        refine zAi rfl rfl (zBy (hd2)) ?_
        refine zA rfl (zA0 (v := .pointer (some _)) rfl) ?_
        refine zAi rfl rfl (zBy (hd2)) ?_
        refine zA9 rfl en22 (zDj (hs.arr [0, 3, 1, 2, 4] 5 (by decide))) ?_
        clear hs
        rintro _ w ⟨⟨b, rfl, hb⟩, hs⟩
        obtain rfl : b = true := hb.2 (by rw [hV2]; exact EqV.rfl' _)
        refine zAi rfl rfl (zBy (hd2)) ?_
        refine zA rfl (zBm rfl) ?_
        refine zAi rfl rfl (zBy (hd2)) ?_
        refine zA rfl (zA0 (v := .bool _) rfl) ?_
        refine zAi rfl rfl (zBg (rfl)) ?_
        refine zA rfl (zA0 (v := .pointer (some _)) rfl) ?_
        refine zAi rfl rfl (zBg (rfl)) ?_
        refine zA9 rfl en20 (zEz (hs.arr [2, 0, 1, 3, 4] 5 (by decide))) ?_
        clear hs
        rintro _ w ⟨rfl, hs⟩
        refine zAi rfl rfl (zBg (rfl)) ?_
        refine zA rfl (zA0 (v := .int .i64 _) rfl) ?_
        refine zAi rfl rfl (zBg (rfl)) ?_
        refine zA rfl (zD7 rfl rfl) ?_
        refine zAi rfl rfl (zBy (hd2)) ?_
        refine zA rfl (zAk (v := .bool _) rfl (zBg (rfl)) rfl) ?_
        refine zA rfl (zAj (v := .bool _) rfl (zBy (hd2)) rfl) ?_
        refine zA4 ?_
        refine zAv rfl ((by rw [hq2]; simp)) ?_
        refine zAd ?_
        refine zA1 ?_
        refine zA rfl (zA0 (v := .int .i64 _) rfl) ?_
        refine zA rfl (zAn rfl rfl rfl (inI (by omega) (by omega))) ?_
        refine zA rfl (zA2 (v := .int .i64 _) rfl) ?_
        refine zA4 ?_
        exact ⟨(i + 1, (V.apply (enz z).1 (enz z).2).2, q + 1, (V2, q2, c2, n2), last, dk2), by simp only; omega, ⟨by simp only; omega, hK2, hs.arr [0, 3, 2, 4] 5 (by decide)⟩, ⟨rfl, rfl, trivial⟩, by repeat (first | exact Out.mix _ _ _ | refine Out.updo rfl ?_ | refine Out.upd rfl ?_ | refine Out.mixIn rfl ?_)⟩
       ·
        refine zA1 ?_
        refine zA rfl (zA0 (v := zAq ad _) rfl) ?_
        refine zA rfl (zCn (ad := ad) rfl) ?_
        refine zA4 ?_
        refine zBa rfl (rfl) ?_
        refine zA5 ?_
        refine zA5 (zA1 ?_)
        refine zA rfl (zA0 (v := .pointer (some _)) rfl) ?_
        refine zA rfl (zB3 hs 6 rfl zF1 sz41 rfl) ?_
        refine zA9 rfl en14 (zDs hM.toV (hs.arr [4, 0, 1, 2, 3, 5, 6, 7] 8 (by decide)) (enz z).1 (x := (enz z).2) (e := s1) (o := s2) (MfR.own 2 3 rfl rfl) (enz_obs z)) ?_
        clear hs
        rintro _ w ⟨eb3, rfl, hs⟩
        rw [hap] at hs ⊢
        refine zA rfl (zAy (ad := ad) rfl) ?_
        refine zA4 ?_
        refine zAv rfl (rfl) ?_
        refine zAd ?_
        refine zA1 ?_
        refine zA rfl (zA0 (v := .int .i64 _) rfl) ?_
        refine zA rfl (zAn rfl rfl (c := ((q + 1 : Nat) : Int)) (by omega) (inI (by omega) (by omega))) ?_
        refine zA rfl (zA2 (v := .int .i64 _) rfl) ?_
        refine zA4 (zA5 (zA1 ?_))
        refine zA rfl (zA0 (v := .pointer (some _)) rfl) ?_
        refine zA9 rfl en31 (down_sl (hs.arr [3, 1, 2, 6] 9 (by decide))) ?_
        clear hs
        rintro _ w ⟨rfl, hs⟩
        replace hs : Mem g w [zBn d dk2, zCd px (V.apply (enz z).1 (enz z).2).2, LogC p d ev V2 q2 c2 n2, zFm b16 last] := hs
        refine zA rfl (zBm rfl) ?_
        refine zA rfl (zA0 (v := .bool _) rfl) ?_
        refine zAc rfl rfl rfl (zBg (hd2)) ?_
        refine zAc rfl rfl rfl (zBg (hd2)) ?_
        refine zAc rfl rfl rfl (zBg (hd2)) ?_
        refine zAc rfl rfl rfl (zBg (hd2)) ?_
        refine zAc rfl rfl rfl (zBg (hd2)) ?_
        refine zAc rfl rfl rfl (zBg (hd2)) ?_
        refine lw_offU rfl rfl rfl ?_
        refine lw_offU rfl rfl rfl ?_
        refine lw_offU rfl rfl rfl ?_
        refine lw_offU rfl rfl rfl ?_
        refine zAc rfl rfl rfl (zBg (hd2)) ?_
        refine zA rfl (zAk (v := .bool _) rfl (zBg (hd2)) rfl) ?_
        refine zA4 ?_
        refine zAv rfl rfl ?_
        refine zAd ?_
        refine zA1 ?_
        refine zA rfl (zA0 (v := .int .i64 _) rfl) ?_
        refine zA rfl (zAn rfl rfl rfl (inI (by omega) (by omega))) ?_
        refine zA rfl (zA2 (v := .int .i64 _) rfl) ?_
        refine zA4 ?_
        exact ⟨(i + 1, (V.apply (enz z).1 (enz z).2).2, q + 1, (V2, q2, c2, n2), last, dk2), by simp only; omega, ⟨by simp only; omega, hK2, hs.arr [2, 0, 1, 3] 4 (by decide)⟩, ⟨rfl, rfl, trivial⟩, by repeat (first | exact Out.mix _ _ _ | refine Out.updo rfl ?_ | refine Out.upd rfl ?_ | refine Out.mixIn rfl ?_)⟩
       ·
        refine zA1 ?_
        refine zA rfl (zA0 (v := zAq ad _) rfl) ?_
        refine zA rfl (zCn (ad := ad) rfl) ?_
        refine zA4 ?_
        refine zAv rfl (rfl) ?_
        refine zA5 (zA1 ?_)
        refine zA rfl (zA0 (v := .pointer (some _)) rfl) ?_
        refine zA9 rfl en31 (down_sl (hs.arr [1, 0, 2, 3, 4, 5, 6, 7] 8 (by decide))) ?_
        clear hs
        rintro _ w ⟨rfl, hs⟩
        replace hs : Mem g w [zBn d dk2, LogC p d ev V2 q2 c2 n2, zEk 2 (.slice s1.1 (enz z).2.eps.length s1.2) ((enz z).2.eps.map prL), zEk 3 (.slice s2.1 (enz z).2.obs.length s2.2) ((enz z).2.obs.map obL), zCd px V, zFm b16 last, cells b18 (.int .i64 (enz z).1 :: mfL (enz z).2 s1 s2) 41, flC ad (V.apply (enz z).1 (enz z).2).1 eb1] := hs
        refine zA rfl (zA0 (v := .bool _) rfl) ?_
        refine zAi rfl rfl (hd2) ?_
        refine zA rfl (zA0 (v := flV ad _ _) rfl) ?_
        refine zAi rfl rfl (hd2) ?_
        refine zA rfl (run_eqF (.inl (by rw [hap])) rfl) ?_
        refine zA rfl (zAj (v := .bool _) rfl (hd2) rfl) ?_
        refine zA4 ?_
        refine zBa rfl ((decide_eq_true (by rw [hap]))) ?_
        obtain ⟨t1, t2, hs⟩ := Mem.openLast (hs.arr [5, 0, 1, 2, 3, 4, 6, 7] 8 (by decide))
        simp only [mfP, List.cons_append, List.nil_append] at hs
        refine zA1 ?_
        refine zA rfl (zB3 hs 8 rfl zF1 sz41 rfl) ?_
        refine zAp hs 0 rfl rfl rfl sz41 rfl rfl ?_
        clear hs
        intro w hs
        try simp only [List.set_cons_succ, List.set_cons_zero] at hs
        refine zA4 (zA5 (zA1 ?_))
        refine zA rfl (zA0 (v := .pointer (some _)) rfl) ?_
        refine zA9 rfl en31 (down_sl ((Mem.closeLast (e := enz z) (hs.arr [0, 5, 6, 3, 4, 7] 10 (by decide))).arr [1, 0, 2, 3] 4 (by decide))) ?_
        clear hs
        rintro _ w ⟨rfl, hs⟩
        replace hs : Mem g w [zBn d dk2, zFm b16 (enz z), LogC p d ev V2 q2 c2 n2, zCd px V] := hs
        refine zA rfl (zBm rfl) ?_
        refine zA rfl (zA0 (v := .bool _) rfl) ?_
        refine zAc rfl rfl rfl (zBg (hd2)) ?_
        refine zAc rfl rfl rfl (zBg (hd2)) ?_
        refine zAc rfl rfl rfl (zBg (hd2)) ?_
        refine zAc rfl rfl rfl (zBg (hd2)) ?_
        refine zAc rfl rfl rfl (zBg (hd2)) ?_
        refine zAc rfl rfl rfl (zBg (hd2)) ?_
        refine lw_offU rfl rfl rfl ?_
        refine lw_offU rfl rfl rfl ?_
        refine lw_offU rfl rfl rfl ?_
        refine lw_offU rfl rfl rfl ?_
        refine zAc rfl rfl rfl (zBg (hd2)) ?_
        refine zA rfl (zAk (v := .bool _) rfl (zBg (hd2)) rfl) ?_
        refine zA4 ?_
        refine zAv rfl rfl ?_
        refine zAd ?_
        refine zA1 ?_
        refine zA rfl (zA0 (v := .int .i64 _) rfl) ?_
        refine zA rfl (zAn rfl rfl rfl (inI (by omega) (by omega))) ?_
        refine zA rfl (zA2 (v := .int .i64 _) rfl) ?_
        refine zA4 ?_
        exact ⟨(i + 1, V, q, (V2, q2, c2, n2), enz z, dk2), by simp only; omega, ⟨by simp only; omega, hK2, hs.arr [2, 0, 3, 1] 4 (by decide)⟩, ⟨rfl, rfl, trivial⟩, by repeat (first | exact Out.mix _ _ _ | refine Out.updo rfl ?_ | refine Out.upd rfl ?_ | refine Out.mixIn rfl ?_)⟩
      ·
       refine zA1 ?_
       refine zA rfl (zA0 (v := .pointer (some _)) rfl) ?_
       refine zA rfl (zB3 hs 6 rfl zF1 sz41 rfl) ?_
       refine zA9 rfl en13 (appBad_sl hM hs (MfR.own 0 1 rfl rfl) (enz_obs z) hap) ?_
       clear hs
       rintro _ w ⟨eb2, rfl, hs⟩
       refine zA rfl (zA2 (v := flV ad _ _) rfl) ?_
       refine zA4 ?_
       refine zA5 ?_
       refine zA5 (zA1 ?_)
       refine zA rfl (zA0 (v := flV ad _ _) rfl) ?_
       refine zA rfl (run_eqF (.inr hap) rfl) ?_
       refine zA4 ?_
       refine zAv rfl (decide_eq_false hap) ?_
       refine zA5 (zA1 ?_)
       refine zA rfl (zA0 (v := .pointer (some _)) rfl) ?_
       refine zA9 rfl en31 (down_sl (hs.arr [2, 0, 1, 3, 4, 5, 6, 7, 8] 9 (by decide))) ?_
       clear hs
       rintro _ w ⟨rfl, hs⟩
       replace hs : Mem g w [zBn d dk, flC ad (V.apply (enz z).1 (enz z).2).1 eb2, LogC p d ev V q c n, zEk 2 (.slice s1.1 (enz z).2.eps.length s1.2) ((enz z).2.eps.map prL), zEk 3 (.slice s2.1 (enz z).2.obs.length s2.2) ((enz z).2.obs.map obL), zCd px V, zFm b16 last, cells b18 (.int .i64 (enz z).1 :: mfL (enz z).2 s1 s2) 41, flC ad (V.apply (enz z).1 (enz z).2).1 eb1] := hs
       refine zA rfl (zA0 (v := .bool _) rfl) ?_
       refine zAc rfl rfl rfl (h79) ?_
       refine zAc rfl rfl rfl (h79) ?_
       refine zA rfl (zAk (v := .bool _) rfl (h79) rfl) ?_
       refine zA4 ?_
       refine zAv rfl rfl ?_
       refine zA5 (zA1 ?_)
       refine zA rfl (zA0 (v := flV ad _ _) rfl) ?_
       refine zA rfl (run_eqF (.inr hap) rfl) ?_
       refine zA rfl (zA0 (v := .bool _) rfl) ?_
       refine zAi rfl rfl (decide_eq_false hap) ?_
       refine zA rfl (zA0 (v := flV ad _ _) rfl) ?_
       refine zAi rfl rfl (decide_eq_false hap) ?_
       refine zA rfl (zA0 (v := flV ad _ _) rfl) ?_
       refine zAi rfl rfl (decide_eq_false hap) ?_
       refine zA9 rfl en25 (faultF_sl hA hfa (hs.arr [8, 0, 1, 2, 3, 4, 5, 6, 7] 9 (by decide))) ?_
       clear hs
       rintro _ w ⟨rfl, hs⟩
       refine zAi rfl rfl (decide_eq_false hap) ?_
       refine zA9 rfl en24 (sameFt_sl hA hfa (hs.arr [2, 0, 1, 3, 4, 5, 6, 7, 8] 9 (by decide))) ?_
       clear hs
       rintro _ w ⟨rfl, hs⟩
       refine zAi rfl rfl (decide_eq_false hap) ?_
       refine zA rfl (zBm rfl) ?_
       refine zA rfl (zAk (v := .bool _) rfl (decide_eq_false hap) rfl) ?_
       refine zA4 ?_
       refine zAv rfl (zBg (rfl)) ?_
       refine zAd ?_
       refine zA5 (zA1 ?_)
       refine zA rfl (zA0 (v := .pointer (some _)) rfl) ?_
       refine zA9 rfl en31 (down_sl (hs.arr [2, 3, 6, 7] 9 (by decide))) ?_
       clear hs
       rintro _ w ⟨rfl, hs⟩
       replace hs : Mem g w [zBn d dk, LogC p d ev V q c n, zCd px V, zFm b16 last] := hs
       refine zA rfl (zBm rfl) ?_
       refine zA rfl (zA0 (v := .bool _) rfl) ?_
       refine zAi rfl rfl (zBy (h79)) ?_
       refine zA rfl (zA0 (v := .pointer (some _)) rfl) ?_
       refine zAi rfl rfl (zBy (h79)) ?_
       refine zA9 rfl en21 (zEb (hs.arr [1, 0, 2, 3] 4 (by decide))) ?_
       clear hs
       rintro _ w ⟨u2, rfl, hs⟩
       refine zAi rfl rfl (zBy (h79)) ?_
       refine zA rfl (zA0 (v := .pointer (some _)) rfl) ?_
       refine zAi rfl rfl (zBy (h79)) ?_
       refine zA9 rfl en22 (zDj (hs.arr [0, 3, 1, 2, 4] 5 (by decide))) ?_
       clear hs
       rintro _ w ⟨⟨b, rfl, hb⟩, hs⟩
       obtain rfl : b = true := hb.2 (EqV.rfl' _)
       refine zAi rfl rfl (zBy (h79)) ?_
       refine zA rfl (zBm rfl) ?_
       refine zAi rfl rfl (zBy (h79)) ?_
       refine zA rfl (zA0 (v := .bool _) rfl) ?_
       refine zAi rfl rfl (zBg (rfl)) ?_
       refine zA rfl (zA0 (v := .pointer (some _)) rfl) ?_
       refine zAi rfl rfl (zBg (rfl)) ?_
       refine zA9 rfl en20 (zEz (hs.arr [2, 0, 1, 3, 4] 5 (by decide))) ?_
       clear hs
       rintro _ w ⟨rfl, hs⟩
       refine zAi rfl rfl (zBg (rfl)) ?_
       refine zA rfl (zA0 (v := .int .i64 _) rfl) ?_
       refine zAi rfl rfl (zBg (rfl)) ?_
       refine zA rfl (zD7 rfl rfl) ?_
       refine zAi rfl rfl (zBy (h79)) ?_
       refine zA rfl (zAk (v := .bool _) rfl (zBg (rfl)) rfl) ?_
       refine zA rfl (zAj (v := .bool _) rfl (zBy (h79)) rfl) ?_
       refine zA4 ?_
       refine zAv rfl ((by simp)) ?_
       refine zAd ?_
       refine zA1 ?_
       refine zA rfl (zA0 (v := .int .i64 _) rfl) ?_
       refine zA rfl (zAn rfl rfl rfl (inI (by omega) (by omega))) ?_
       refine zA rfl (zA2 (v := .int .i64 _) rfl) ?_
       refine zA4 ?_
       exact ⟨(i + 1, V, q, (V, q, c, n), last, dk), by simp only; omega, ⟨by simp only; omega, hK.more, hs.arr [0, 3, 2, 4] 5 (by decide)⟩, ⟨rfl, rfl, trivial⟩, by repeat (first | exact Out.mix _ _ _ | refine Out.updo rfl ?_ | refine Out.upd rfl ?_ | refine Out.mixIn rfl ?_)⟩
     ·
      intro h79
      replace h79 := zE4 h79
      refine zBk rfl ?_
      refine zA5 (zA1 ?_)
      refine zA rfl (zA0 (v := .pointer (some _)) rfl) ?_
      refine zA rfl (zA0 (v := .slice _ _ _) rfl) ?_
      refine zA9 rfl en32 (crash_sl hs (by omega) (h3.rd _) rfl (by omega)) ?_
      clear hs
      rintro _ w ⟨rfl, hs⟩
      refine zA4 ?_
      replace hs : Mem g w [zBn d (dk.crash picks), LogC p d ev V' q' c n, zCd px V, zFm b16 last] := hs
      obtain ⟨fc, hIc, hOc⟩ := hK.crash (by omega) picks
      refine zA5 ?_
      obtain hO | ⟨hl1, hEl, hapl, hO⟩ := hOc
      ·
       refine zA1 ?_
       refine zA rfl (zA0 (v := .pointer (some _)) rfl) ?_
       refine zA rfl (zA0 (v := .int .i64 _) rfl) ?_
       refine zA9 rfl en10 (openT_sl hM hs hIc rfl (by show dk.calls < 800000; omega) (by omega) hO (by omega)) ?_
       clear hs
       rintro _ w ⟨py, dk3, f3, c3, n3, rfl, m1, m2, m3, m4, m5, hs⟩
       have h9 := hs.arr [0, 1, 3, 4] 5 (by decide)
       clear hs
       have hs : Mem g w [LogC py d ev V q c3 n3, zBn d dk3, zCd px V, zFm b16 last] := h9
       have m3 : dk3.calls ≤ dk.calls + 4 := m3
       refine zA rfl (zA0 (v := .tuple _) rfl) ?_
       refine zA rfl (zAa (v := .pointer (some _)) rfl rfl) ?_
       refine zA rfl (zAa (v := .nilIface) rfl rfl) ?_
       refine zA rfl (zA2 (v := .pointer (some _)) rfl) ?_
       refine zA rfl (zA2 (v := .nilIface) rfl) ?_
       refine zA4 ?_
       refine zA5 ?_
       refine zA5 (zA1 ?_)
       refine zA rfl (zA0 (v := .pointer (some _)) rfl) ?_
       refine zA rfl (zEa uz30 rfl rfl) ?_
       refine zA rfl (zA0 (v := .bool _) rfl) ?_
       refine zAi rfl rfl (rfl) ?_
       refine zA rfl (zA0 (v := .nilIface) rfl) ?_
       refine zAi rfl rfl (rfl) ?_
       refine zA rfl (zBi rfl) ?_
       refine zA rfl (zAk (v := .bool _) rfl (rfl) rfl) ?_
       refine zA4 ?_
       refine zAv rfl (rfl) ?_
       refine zAd ?_
       refine zA5 (zA1 ?_)
       refine zA rfl (zA0 (v := .pointer (some _)) rfl) ?_
       refine zA9 rfl en21 (zEb hs) ?_
       clear hs
       rintro _ w ⟨uy, rfl, hs⟩
       refine zA rfl (zA2 (v := .pointer (some _)) rfl) ?_
       refine zA4 ?_
       refine zA5 ?_
       refine zA5 (zA1 ?_)
       refine zA rfl (zA0 (v := .pointer (some _)) rfl) ?_
       refine zA rfl (zA0 (v := .pointer (some _)) rfl) ?_
       refine zA9 rfl en22 (zDj (hs.arr [0, 3, 1, 2, 4] 5 (by decide))) ?_
       clear hs
       rintro _ w ⟨⟨b, rfl, hb⟩, hs⟩
       obtain rfl : b = true := hb.2 (EqV.rfl' _)
       refine zA rfl (zBm rfl) ?_
       refine zA4 ?_
       refine zAv rfl (zBg (rfl)) ?_
       refine zA5 (zA1 ?_)
       refine zA rfl (zA0 (v := .pointer (some _)) rfl) ?_
       refine zA9 rfl en20 (zEz (hs.arr [2, 0, 1, 3, 4] 5 (by decide))) ?_
       clear hs
       rintro _ w ⟨rfl, hs⟩
       replace hs : Mem g w [LogC py d ev V q c3 n3, zCd uy V, zCd px V, zBn d dk3, zFm b16 last] := hs
       refine zA rfl (zA0 (v := .int .i64 _) rfl) ?_
       refine zA rfl (zD7 rfl rfl) ?_
       refine zA4 ?_
       refine zAv rfl ((by simp)) ?_
       refine zAd ?_
       refine zA5 (zA1 ?_)
       refine zA rfl (zA0 (v := .pointer (some _)) rfl) ?_
       refine zA rfl (zA0 (v := .int .i64 _) rfl) ?_
       refine zA9 rfl en10 (openU_sl hM (hs.arr [3, 0, 1] 5 (by decide)) m4 m1 (by omega) (by omega) m5 (by omega)) ?_
       clear hs
       rintro _ w ⟨pw, dk4, rfl, o1, o2, o3, o4, hs⟩
       refine zA rfl (zA0 (v := .tuple _) rfl) ?_
       refine zA rfl (zAa (v := .pointer (some _)) rfl rfl) ?_
       refine zA rfl (zAa (v := .nilIface) rfl rfl) ?_
       refine zA rfl (zA2 (v := .pointer (some _)) rfl) ?_
       refine zA rfl (zA2 (v := .nilIface) rfl) ?_
       refine zA4 (zA5 (zA1 ?_))
       refine zA rfl (zA0 (v := .pointer (some _)) rfl) ?_
       refine zA rfl (zDt uz30 rfl rfl) ?_
       refine zA rfl (zA0 (v := .bool _) rfl) ?_
       refine zAi rfl rfl (rfl) ?_
       refine zA rfl (zA0 (v := .nilIface) rfl) ?_
       refine zAi rfl rfl (rfl) ?_
       refine zA rfl (zE8 rfl) ?_
       refine zA rfl (zAj (v := .bool _) rfl (rfl) rfl) ?_
       refine zA rfl (zA0 (v := .bool _) rfl) ?_
       refine zAi rfl rfl (rfl) ?_
       refine zA rfl (zA0 (v := .pointer (some _)) rfl) ?_
       refine zAi rfl rfl (rfl) ?_
       refine zA9 rfl en21 (zEb hs) ?_
       clear hs
       rintro _ w ⟨u6, rfl, hs⟩
       refine zAi rfl rfl (rfl) ?_
       refine zA rfl (zA0 (v := .pointer (some _)) rfl) ?_
       refine zAi rfl rfl (rfl) ?_
       refine zA9 rfl en22 (zDj (hs.arr [0, 4, 1, 2, 3] 5 (by decide))) ?_
       clear hs
       rintro _ w ⟨⟨b6, rfl, hb6⟩, hs⟩
       obtain rfl : b6 = true := hb6.2 (EqV.rfl' _)
       refine zA rfl (zAj (v := .bool _) rfl (rfl) rfl) ?_
       refine zA rfl (zA0 (v := .bool _) rfl) ?_
       refine zAi rfl rfl (rfl) ?_
       refine zA rfl (zA0 (v := .pointer (some _)) rfl) ?_
       refine zAi rfl rfl (rfl) ?_
       refine zA9 rfl en20 (zEz (hs.arr [2, 0, 1, 3, 4] 5 (by decide))) ?_
       clear hs
       rintro _ w ⟨rfl, hs⟩
       refine zAi rfl rfl (rfl) ?_
       refine zA rfl (zA0 (v := .pointer (some _)) rfl) ?_
       refine zAi rfl rfl (rfl) ?_
       refine zA9 rfl en20 (zEz (hs.arr [4, 0, 1, 2, 3] 5 (by decide))) ?_
       clear hs
       rintro _ w ⟨rfl, hs⟩
       refine zAi rfl rfl (rfl) ?_
       refine zA rfl (zBu rfl rfl) ?_
       refine zA rfl (zAj (v := .bool _) rfl (rfl) rfl) ?_
       refine zA rfl (zA2 (v := .bool _) rfl) ?_
       refine zA4 ?_
       refine zAf ?_
       refine zBj (v := .bool _) rfl rfl ?_
       exact ⟨_, rfl, zCs (decide_eq_true rfl), hs.nil⟩
      ·
       refine zA1 ?_
       refine zA rfl (zA0 (v := .pointer (some _)) rfl) ?_
       refine zA rfl (zA0 (v := .int .i64 _) rfl) ?_
       refine zA9 rfl en10 (openT_sl hM hs hIc rfl (by show dk.calls < 800000; omega) (by omega) hO (by omega)) ?_
       clear hs
       rintro _ w ⟨py, dk3, f3, c3, n3, rfl, m1, m2, m3, m4, m5, hs⟩
       have h9 := hs.arr [0, 1, 3, 4] 5 (by decide)
       clear hs
       have hs : Mem g w [LogC py d ev (V.apply last.1 last.2).2 (q + 1) c3 n3, zBn d dk3, zCd px V, zFm b16 last] := h9
       have m3 : dk3.calls ≤ dk.calls + 4 := m3
       refine zA rfl (zA0 (v := .tuple _) rfl) ?_
       refine zA rfl (zAa (v := .pointer (some _)) rfl rfl) ?_
       refine zA rfl (zAa (v := .nilIface) rfl rfl) ?_
       refine zA rfl (zA2 (v := .pointer (some _)) rfl) ?_
       refine zA rfl (zA2 (v := .nilIface) rfl) ?_
       refine zA4 ?_
       refine zA5 ?_
       refine zA5 (zA1 ?_)
       refine zA rfl (zA0 (v := .pointer (some _)) rfl) ?_
       refine zA rfl (zEa uz30 rfl rfl) ?_
       refine zA rfl (zA0 (v := .bool _) rfl) ?_
       refine zAi rfl rfl (rfl) ?_
       refine zA rfl (zA0 (v := .nilIface) rfl) ?_
       refine zAi rfl rfl (rfl) ?_
       refine zA rfl (zBi rfl) ?_
       refine zA rfl (zAk (v := .bool _) rfl (rfl) rfl) ?_
       refine zA4 ?_
       refine zAv rfl (rfl) ?_
       refine zAd ?_
       refine zA5 (zA1 ?_)
       refine zA rfl (zA0 (v := .pointer (some _)) rfl) ?_
       refine zA9 rfl en21 (zEb hs) ?_
       clear hs
       rintro _ w ⟨uy, rfl, hs⟩
       refine zA rfl (zA2 (v := .pointer (some _)) rfl) ?_
       refine zA4 ?_
       refine zA5 ?_
       refine zA5 (zA1 ?_)
       refine zA rfl (zA0 (v := .pointer (some _)) rfl) ?_
       refine zA rfl (zA0 (v := .pointer (some _)) rfl) ?_
       refine zA9 rfl en22 (zDj (hs.arr [0, 3, 1, 2, 4] 5 (by decide))) ?_
       clear hs
       rintro _ w ⟨⟨b, rfl, hb⟩, hs⟩
       obtain rfl : b = false := Bool.eq_false_iff.2 (fun h => Vw.apply_moves hapl (hb.1 h))
       refine zA rfl (zBm rfl) ?_
       refine zA4 ?_
       refine zBa rfl (zBy (rfl)) ?_
       refine zA5 (zA1 ?_)
       refine zA rfl (zA0 (v := .pointer (some _)) rfl) ?_
       refine zA9 rfl en16 (zFk (hs.arr [1, 0, 2, 3, 4] 5 (by decide))) ?_
       clear hs
       rintro _ w ⟨uz, rfl, hs⟩
       refine zA rfl (zA2 (v := .pointer (some _)) rfl) ?_
       refine zA4 ?_
       refine zA5 ?_
       obtain ⟨t1, t2, hs⟩ := Mem.openLast (hs.arr [5, 0, 1, 2, 3, 4] 6 (by decide))
       simp only [mfP, List.cons_append, List.nil_append] at hs
       refine zA1 ?_
       refine zA rfl (zA3 (o' := 0) zF1 rfl sz3 rfl rfl rfl) ?_
       refine zA rfl (zA7 uz3 rfl rfl (hs.cellAt 0 rfl rfl)) ?_
       refine zA rfl (zBu rfl rfl) ?_
       refine zA rfl (zA0 (v := .bool _) rfl) ?_
       refine zAi rfl rfl (decide_eq_false hl1) ?_
       refine zA rfl (zA0 (v := .pointer (some _)) rfl) ?_
       refine zAi rfl rfl (decide_eq_false hl1) ?_
       refine zA rfl (zB3 hs 0 rfl zF1 sz41 rfl) ?_
       refine zAi rfl rfl (decide_eq_false hl1) ?_
       refine zA9 rfl en14 (zDs hM.toV (hs.arr [3, 0, 1, 2, 4, 5, 6, 7] 8 (by decide)) last.1 (x := last.2) (e := t1) (o := t2) (MfR.own 1 2 rfl rfl) (by have := mf_len (x := last.2) (by rw [hEl.1]); omega)) ?_
       clear hs
       rintro _ w ⟨eb5, rfl, hs⟩
       rw [hapl] at hs ⊢
       refine zAi rfl rfl (decide_eq_false hl1) ?_
       refine zA rfl (zAy (ad := ad) rfl) ?_
       refine zA rfl (zAk (v := .bool _) rfl (decide_eq_false hl1) rfl) ?_
       refine zA rfl (zA0 (v := .bool _) rfl) ?_
       refine zAi rfl rfl (rfl) ?_
       refine zA rfl (zA0 (v := .pointer (some _)) rfl) ?_
       refine zAi rfl rfl (rfl) ?_
       refine zA rfl (zA0 (v := .pointer (some _)) rfl) ?_
       refine zAi rfl rfl (rfl) ?_
       refine zA9 rfl en22 (zDj (hs.arr [1, 6, 2, 3, 4, 5, 7, 8] 9 (by decide))) ?_
       clear hs
       rintro _ w ⟨⟨b2, rfl, hb2⟩, hs⟩
       obtain rfl : b2 = true := hb2.2 (EqV.rfl' _)
       refine zAi rfl rfl (rfl) ?_
       refine zA rfl (zBm rfl) ?_
       refine zA rfl (zAk (v := .bool _) rfl (rfl) rfl) ?_
       refine zA rfl (zA0 (v := .bool _) rfl) ?_
       refine zAi rfl rfl (zBg (rfl)) ?_
       refine zA rfl (zA0 (v := .pointer (some _)) rfl) ?_
       refine zAi rfl rfl (zBg (rfl)) ?_
       refine zA9 rfl en20 (zEz (hs.arr [6, 0, 1, 7] 8 (by decide))) ?_
       clear hs
       rintro _ w ⟨rfl, hs⟩
       replace hs : Mem g w [LogC py d ev (V.apply last.1 last.2).2 (q + 1) c3 n3, zCd uz (V.apply last.1 last.2).2, zCd uy (V.apply last.1 last.2).2, zBn d dk3] := hs
       refine zAi rfl rfl (zBg (rfl)) ?_
       refine zA rfl (zA0 (v := .int .i64 _) rfl) ?_
       refine zAi rfl rfl (zBg (rfl)) ?_
       refine zA rfl (zAn rfl rfl (c := ((q + 1 : Nat) : Int)) (by omega) (inI (by omega) (by omega))) ?_
       refine zAi rfl rfl (zBg (rfl)) ?_
       refine zA rfl (zD7 rfl rfl) ?_
       refine zA rfl (zAk (v := .bool _) rfl (zBg (rfl)) rfl) ?_
       refine zA4 ?_
       refine zAv rfl ((by simp)) ?_
       refine zAd ?_
       refine zA5 (zA1 ?_)
       refine zA rfl (zA0 (v := .pointer (some _)) rfl) ?_
       refine zA rfl (zA0 (v := .int .i64 _) rfl) ?_
       refine zA9 rfl en10 (openU_sl hM (hs.arr [3, 0, 2] 4 (by decide)) m4 m1 (by omega) (by omega) m5 (by omega)) ?_
       clear hs
       rintro _ w ⟨pw, dk4, rfl, o1, o2, o3, o4, hs⟩
       refine zA rfl (zA0 (v := .tuple _) rfl) ?_
       refine zA rfl (zAa (v := .pointer (some _)) rfl rfl) ?_
       refine zA rfl (zAa (v := .nilIface) rfl rfl) ?_
       refine zA rfl (zA2 (v := .pointer (some _)) rfl) ?_
       refine zA rfl (zA2 (v := .nilIface) rfl) ?_
       refine zA4 (zA5 (zA1 ?_))
       refine zA rfl (zA0 (v := .pointer (some _)) rfl) ?_
       refine zA rfl (zDt uz30 rfl rfl) ?_
       refine zA rfl (zA0 (v := .bool _) rfl) ?_
       refine zAi rfl rfl (rfl) ?_
       refine zA rfl (zA0 (v := .nilIface) rfl) ?_
       refine zAi rfl rfl (rfl) ?_
       refine zA rfl (zE8 rfl) ?_
       refine zA rfl (zAj (v := .bool _) rfl (rfl) rfl) ?_
       refine zA rfl (zA0 (v := .bool _) rfl) ?_
       refine zAi rfl rfl (rfl) ?_
       refine zA rfl (zA0 (v := .pointer (some _)) rfl) ?_
       refine zAi rfl rfl (rfl) ?_
       refine zA9 rfl en21 (zEb hs) ?_
       clear hs
       rintro _ w ⟨u6, rfl, hs⟩
       refine zAi rfl rfl (rfl) ?_
       refine zA rfl (zA0 (v := .pointer (some _)) rfl) ?_
       refine zAi rfl rfl (rfl) ?_
       refine zA9 rfl en22 (zDj (hs.arr [0, 4, 1, 2, 3] 5 (by decide))) ?_
       clear hs
       rintro _ w ⟨⟨b6, rfl, hb6⟩, hs⟩
       obtain rfl : b6 = true := hb6.2 (EqV.rfl' _)
       refine zA rfl (zAj (v := .bool _) rfl (rfl) rfl) ?_
       refine zA rfl (zA0 (v := .bool _) rfl) ?_
       refine zAi rfl rfl (rfl) ?_
       refine zA rfl (zA0 (v := .pointer (some _)) rfl) ?_
       refine zAi rfl rfl (rfl) ?_
       refine zA9 rfl en20 (zEz (hs.arr [2, 0, 1, 3, 4] 5 (by decide))) ?_
       clear hs
       rintro _ w ⟨rfl, hs⟩
       refine zAi rfl rfl (rfl) ?_
       refine zA rfl (zA0 (v := .pointer (some _)) rfl) ?_
       refine zAi rfl rfl (rfl) ?_
       refine zA9 rfl en20 (zEz (hs.arr [4, 0, 1, 2, 3] 5 (by decide))) ?_
       clear hs
       rintro _ w ⟨rfl, hs⟩
       refine zAi rfl rfl (rfl) ?_
       refine zA rfl (zBu rfl rfl) ?_
       refine zA rfl (zAj (v := .bool _) rfl (rfl) rfl) ?_
       refine zA rfl (zA2 (v := .bool _) rfl) ?_
       refine zA4 ?_
       refine zAf ?_
       refine zBj (v := .bool _) rfl rfl ?_
       exact ⟨_, rfl, zCs (decide_eq_true rfl), hs.nil⟩
    ·
     intro h76
     have g76 := of_decide_eq_false h76
     refine zAc rfl rfl rfl h76 ?_
     refine zAc rfl rfl rfl h76 ?_
     refine zAc rfl rfl rfl h76 ?_
     refine zA rfl (zAk (v := .bool _) rfl h76 rfl) ?_
     refine zA4 ?_
     refine zAv rfl rfl ?_
     refine zBk rfl ?_
     refine zA5 (zA1 ?_)
     refine zA rfl (zA0 (v := .pointer (some _)) rfl) ?_
     refine zA rfl (zA0 (v := .slice _ _ _) rfl) ?_
     refine zA9 rfl en32 (crash_sl (hs.arr [1, 0, 2, 3] 4 (by decide)) (by omega) (h3.rd _) rfl (by omega)) ?_
     clear hs
     rintro _ w ⟨rfl, hs⟩
     refine zA4 ?_
     replace hs : Mem g w [zBn d (dk.crash picks), LogC p d ev V' q' c n, zCd px V, zFm b16 last] := hs
     obtain ⟨fc, hIc, hOc⟩ := hK.crash (by omega) picks
     refine zA5 ?_
     obtain hO | ⟨hl1, hEl, hapl, hO⟩ := hOc
     ·
      refine zA1 ?_
      refine zA rfl (zA0 (v := .pointer (some _)) rfl) ?_
      refine zA rfl (zA0 (v := .int .i64 _) rfl) ?_
      refine zA9 rfl en10 (openT_sl hM hs hIc rfl (by show dk.calls < 800000; omega) (by omega) hO (by omega)) ?_
      clear hs
      rintro _ w ⟨py, dk3, f3, c3, n3, rfl, m1, m2, m3, m4, m5, hs⟩
      have h9 := hs.arr [0, 1, 3, 4] 5 (by decide)
      clear hs
      have hs : Mem g w [LogC py d ev V q c3 n3, zBn d dk3, zCd px V, zFm b16 last] := h9
      have m3 : dk3.calls ≤ dk.calls + 4 := m3
      refine zA rfl (zA0 (v := .tuple _) rfl) ?_
      refine zA rfl (zAa (v := .pointer (some _)) rfl rfl) ?_
      refine zA rfl (zAa (v := .nilIface) rfl rfl) ?_
      refine zA rfl (zA2 (v := .pointer (some _)) rfl) ?_
      refine zA rfl (zA2 (v := .nilIface) rfl) ?_
      refine zA4 ?_
      refine zA5 ?_
      refine zA5 (zA1 ?_)
      refine zA rfl (zA0 (v := .pointer (some _)) rfl) ?_
      refine zA rfl (zEa uz30 rfl rfl) ?_
      refine zA rfl (zA0 (v := .bool _) rfl) ?_
      refine zAi rfl rfl (rfl) ?_
      refine zA rfl (zA0 (v := .nilIface) rfl) ?_
      refine zAi rfl rfl (rfl) ?_
      refine zA rfl (zBi rfl) ?_
      refine zA rfl (zAk (v := .bool _) rfl (rfl) rfl) ?_
      refine zA4 ?_
      refine zAv rfl (rfl) ?_
      refine zAd ?_
      refine zA5 (zA1 ?_)
      refine zA rfl (zA0 (v := .pointer (some _)) rfl) ?_
      refine zA9 rfl en21 (zEb hs) ?_
      clear hs
      rintro _ w ⟨uy, rfl, hs⟩
      refine zA rfl (zA2 (v := .pointer (some _)) rfl) ?_
      refine zA4 ?_
      refine zA5 ?_
      refine zA5 (zA1 ?_)
      refine zA rfl (zA0 (v := .pointer (some _)) rfl) ?_
      refine zA rfl (zA0 (v := .pointer (some _)) rfl) ?_
      refine zA9 rfl en22 (zDj (hs.arr [0, 3, 1, 2, 4] 5 (by decide))) ?_
      clear hs
      rintro _ w ⟨⟨b, rfl, hb⟩, hs⟩
      obtain rfl : b = true := hb.2 (EqV.rfl' _)
      refine zA rfl (zBm rfl) ?_
      refine zA4 ?_
      refine zAv rfl (zBg (rfl)) ?_
      refine zA5 (zA1 ?_)
      refine zA rfl (zA0 (v := .pointer (some _)) rfl) ?_
      refine zA9 rfl en20 (zEz (hs.arr [2, 0, 1, 3, 4] 5 (by decide))) ?_
      clear hs
      rintro _ w ⟨rfl, hs⟩
      replace hs : Mem g w [LogC py d ev V q c3 n3, zCd uy V, zCd px V, zBn d dk3, zFm b16 last] := hs
      refine zA rfl (zA0 (v := .int .i64 _) rfl) ?_
      refine zA rfl (zD7 rfl rfl) ?_
      refine zA4 ?_
      refine zAv rfl ((by simp)) ?_
      refine zAd ?_
      refine zA5 (zA1 ?_)
      refine zA rfl (zA0 (v := .pointer (some _)) rfl) ?_
      refine zA rfl (zA0 (v := .int .i64 _) rfl) ?_
      refine zA9 rfl en10 (openU_sl hM (hs.arr [3, 0, 1] 5 (by decide)) m4 m1 (by omega) (by omega) m5 (by omega)) ?_
      clear hs
      rintro _ w ⟨pw, dk4, rfl, o1, o2, o3, o4, hs⟩
      refine zA rfl (zA0 (v := .tuple _) rfl) ?_
      refine zA rfl (zAa (v := .pointer (some _)) rfl rfl) ?_
      refine zA rfl (zAa (v := .nilIface) rfl rfl) ?_
      refine zA rfl (zA2 (v := .pointer (some _)) rfl) ?_
      refine zA rfl (zA2 (v := .nilIface) rfl) ?_
      refine zA4 (zA5 (zA1 ?_))
      refine zA rfl (zA0 (v := .pointer (some _)) rfl) ?_
      refine zA rfl (zDt uz30 rfl rfl) ?_
      refine zA rfl (zA0 (v := .bool _) rfl) ?_
      refine zAi rfl rfl (rfl) ?_
      refine zA rfl (zA0 (v := .nilIface) rfl) ?_
      refine zAi rfl rfl (rfl) ?_
      refine zA rfl (zE8 rfl) ?_
      refine zA rfl (zAj (v := .bool _) rfl (rfl) rfl) ?_
      refine zA rfl (zA0 (v := .bool _) rfl) ?_
      refine zAi rfl rfl (rfl) ?_
      refine zA rfl (zA0 (v := .pointer (some _)) rfl) ?_
      refine zAi rfl rfl (rfl) ?_
      refine zA9 rfl en21 (zEb hs) ?_
      clear hs
      rintro _ w ⟨u6, rfl, hs⟩
      refine zAi rfl rfl (rfl) ?_
      refine zA rfl (zA0 (v := .pointer (some _)) rfl) ?_
      refine zAi rfl rfl (rfl) ?_
      refine zA9 rfl en22 (zDj (hs.arr [0, 4, 1, 2, 3] 5 (by decide))) ?_
      clear hs
      rintro _ w ⟨⟨b6, rfl, hb6⟩, hs⟩
      obtain rfl : b6 = true := hb6.2 (EqV.rfl' _)
      refine zA rfl (zAj (v := .bool _) rfl (rfl) rfl) ?_
      refine zA rfl (zA0 (v := .bool _) rfl) ?_
      refine zAi rfl rfl (rfl) ?_
      refine zA rfl (zA0 (v := .pointer (some _)) rfl) ?_
      refine zAi rfl rfl (rfl) ?_
      refine zA9 rfl en20 (zEz (hs.arr [2, 0, 1, 3, 4] 5 (by decide))) ?_
      clear hs
      rintro _ w ⟨rfl, hs⟩
      refine zAi rfl rfl (rfl) ?_
      refine zA rfl (zA0 (v := .pointer (some _)) rfl) ?_
      refine zAi rfl rfl (rfl) ?_
      refine zA9 rfl en20 (zEz (hs.arr [4, 0, 1, 2, 3] 5 (by decide))) ?_
      clear hs
      rintro _ w ⟨rfl, hs⟩
      refine zAi rfl rfl (rfl) ?_
      refine zA rfl (zBu rfl rfl) ?_
      refine zA rfl (zAj (v := .bool _) rfl (rfl) rfl) ?_
      refine zA rfl (zA2 (v := .bool _) rfl) ?_
      refine zA4 ?_
      refine zAf ?_
      refine zBj (v := .bool _) rfl rfl ?_
      exact ⟨_, rfl, zCs (decide_eq_true rfl), hs.nil⟩
     ·
      refine zA1 ?_
      refine zA rfl (zA0 (v := .pointer (some _)) rfl) ?_
      refine zA rfl (zA0 (v := .int .i64 _) rfl) ?_
      refine zA9 rfl en10 (openT_sl hM hs hIc rfl (by show dk.calls < 800000; omega) (by omega) hO (by omega)) ?_
      clear hs
      rintro _ w ⟨py, dk3, f3, c3, n3, rfl, m1, m2, m3, m4, m5, hs⟩
      have h9 := hs.arr [0, 1, 3, 4] 5 (by decide)
      clear hs
      have hs : Mem g w [LogC py d ev (V.apply last.1 last.2).2 (q + 1) c3 n3, zBn d dk3, zCd px V, zFm b16 last] := h9
      have m3 : dk3.calls ≤ dk.calls + 4 := m3
      refine zA rfl (zA0 (v := .tuple _) rfl) ?_
      refine zA rfl (zAa (v := .pointer (some _)) rfl rfl) ?_
      refine zA rfl (zAa (v := .nilIface) rfl rfl) ?_
      refine zA rfl (zA2 (v := .pointer (some _)) rfl) ?_
      refine zA rfl (zA2 (v := .nilIface) rfl) ?_
      refine zA4 ?_
      refine zA5 ?_
      refine zA5 (zA1 ?_)
      refine zA rfl (zA0 (v := .pointer (some _)) rfl) ?_
      refine zA rfl (zEa uz30 rfl rfl) ?_
      refine zA rfl (zA0 (v := .bool _) rfl) ?_
      refine zAi rfl rfl (rfl) ?_
      refine zA rfl (zA0 (v := .nilIface) rfl) ?_
      refine zAi rfl rfl (rfl) ?_
      refine zA rfl (zBi rfl) ?_
      refine zA rfl (zAk (v := .bool _) rfl (rfl) rfl) ?_
      refine zA4 ?_
      refine zAv rfl (rfl) ?_
      refine zAd ?_
      refine zA5 (zA1 ?_)
      refine zA rfl (zA0 (v := .pointer (some _)) rfl) ?_
      refine zA9 rfl en21 (zEb hs) ?_
      clear hs
      rintro _ w ⟨uy, rfl, hs⟩
      refine zA rfl (zA2 (v := .pointer (some _)) rfl) ?_
      refine zA4 ?_
      refine zA5 ?_
      refine zA5 (zA1 ?_)
      refine zA rfl (zA0 (v := .pointer (some _)) rfl) ?_
      refine zA rfl (zA0 (v := .pointer (some _)) rfl) ?_
      refine zA9 rfl en22 (zDj (hs.arr [0, 3, 1, 2, 4] 5 (by decide))) ?_
      clear hs
      rintro _ w ⟨⟨b, rfl, hb⟩, hs⟩
      obtain rfl : b = false := Bool.eq_false_iff.2 (fun h => Vw.apply_moves hapl (hb.1 h))
      refine zA rfl (zBm rfl) ?_
      refine zA4 ?_
      refine zBa rfl (zBy (rfl)) ?_
      refine zA5 (zA1 ?_)
      refine zA rfl (zA0 (v := .pointer (some _)) rfl) ?_
      refine zA9 rfl en16 (zFk (hs.arr [1, 0, 2, 3, 4] 5 (by decide))) ?_
      clear hs
      rintro _ w ⟨uz, rfl, hs⟩
      refine zA rfl (zA2 (v := .pointer (some _)) rfl) ?_
      refine zA4 ?_
      refine zA5 ?_
      obtain ⟨t1, t2, hs⟩ := Mem.openLast (hs.arr [5, 0, 1, 2, 3, 4] 6 (by decide))
      simp only [mfP, List.cons_append, List.nil_append] at hs
      refine zA1 ?_
      refine zA rfl (zA3 (o' := 0) zF1 rfl sz3 rfl rfl rfl) ?_
      refine zA rfl (zA7 uz3 rfl rfl (hs.cellAt 0 rfl rfl)) ?_
      refine zA rfl (zBu rfl rfl) ?_
      refine zA rfl (zA0 (v := .bool _) rfl) ?_
      refine zAi rfl rfl (decide_eq_false hl1) ?_
      refine zA rfl (zA0 (v := .pointer (some _)) rfl) ?_
      refine zAi rfl rfl (decide_eq_false hl1) ?_
      refine zA rfl (zB3 hs 0 rfl zF1 sz41 rfl) ?_
      refine zAi rfl rfl (decide_eq_false hl1) ?_
      refine zA9 rfl en14 (zDs hM.toV (hs.arr [3, 0, 1, 2, 4, 5, 6, 7] 8 (by decide)) last.1 (x := last.2) (e := t1) (o := t2) (MfR.own 1 2 rfl rfl) (by have := mf_len (x := last.2) (by rw [hEl.1]); omega)) ?_
      clear hs
      rintro _ w ⟨eb5, rfl, hs⟩
      rw [hapl] at hs ⊢
      refine zAi rfl rfl (decide_eq_false hl1) ?_
      refine zA rfl (zAy (ad := ad) rfl) ?_
      refine zA rfl (zAk (v := .bool _) rfl (decide_eq_false hl1) rfl) ?_
      refine zA rfl (zA0 (v := .bool _) rfl) ?_
      refine zAi rfl rfl (rfl) ?_
      refine zA rfl (zA0 (v := .pointer (some _)) rfl) ?_
      refine zAi rfl rfl (rfl) ?_
      refine zA rfl (zA0 (v := .pointer (some _)) rfl) ?_
      refine zAi rfl rfl (rfl) ?_
      refine zA9 rfl en22 (zDj (hs.arr [1, 6, 2, 3, 4, 5, 7, 8] 9 (by decide))) ?_
      clear hs
      rintro _ w ⟨⟨b2, rfl, hb2⟩, hs⟩
      obtain rfl : b2 = true := hb2.2 (EqV.rfl' _)
      refine zAi rfl rfl (rfl) ?_
      refine zA rfl (zBm rfl) ?_
      refine zA rfl (zAk (v := .bool _) rfl (rfl) rfl) ?_
      refine zA rfl (zA0 (v := .bool _) rfl) ?_
      refine zAi rfl rfl (zBg (rfl)) ?_
      refine zA rfl (zA0 (v := .pointer (some _)) rfl) ?_
      refine zAi rfl rfl (zBg (rfl)) ?_
      refine zA9 rfl en20 (zEz (hs.arr [6, 0, 1, 7] 8 (by decide))) ?_
      clear hs
      rintro _ w ⟨rfl, hs⟩
      replace hs : Mem g w [LogC py d ev (V.apply last.1 last.2).2 (q + 1) c3 n3, zCd uz (V.apply last.1 last.2).2, zCd uy (V.apply last.1 last.2).2, zBn d dk3] := hs
      refine zAi rfl rfl (zBg (rfl)) ?_
      refine zA rfl (zA0 (v := .int .i64 _) rfl) ?_
      refine zAi rfl rfl (zBg (rfl)) ?_
      refine zA rfl (zAn rfl rfl (c := ((q + 1 : Nat) : Int)) (by omega) (inI (by omega) (by omega))) ?_
      refine zAi rfl rfl (zBg (rfl)) ?_
      refine zA rfl (zD7 rfl rfl) ?_
      refine zA rfl (zAk (v := .bool _) rfl (zBg (rfl)) rfl) ?_
      refine zA4 ?_
      refine zAv rfl ((by simp)) ?_
      refine zAd ?_
      refine zA5 (zA1 ?_)
      refine zA rfl (zA0 (v := .pointer (some _)) rfl) ?_
      refine zA rfl (zA0 (v := .int .i64 _) rfl) ?_
      refine zA9 rfl en10 (openU_sl hM (hs.arr [3, 0, 2] 4 (by decide)) m4 m1 (by omega) (by omega) m5 (by omega)) ?_
      clear hs
      rintro _ w ⟨pw, dk4, rfl, o1, o2, o3, o4, hs⟩
      refine zA rfl (zA0 (v := .tuple _) rfl) ?_
      refine zA rfl (zAa (v := .pointer (some _)) rfl rfl) ?_
      refine zA rfl (zAa (v := .nilIface) rfl rfl) ?_
      refine zA rfl (zA2 (v := .pointer (some _)) rfl) ?_
      refine zA rfl (zA2 (v := .nilIface) rfl) ?_
      refine zA4 (zA5 (zA1 ?_))
      refine zA rfl (zA0 (v := .pointer (some _)) rfl) ?_
      refine zA rfl (zDt uz30 rfl rfl) ?_
      refine zA rfl (zA0 (v := .bool _) rfl) ?_
      refine zAi rfl rfl (rfl) ?_
      refine zA rfl (zA0 (v := .nilIface) rfl) ?_
      refine zAi rfl rfl (rfl) ?_
      refine zA rfl (zE8 rfl) ?_
      refine zA rfl (zAj (v := .bool _) rfl (rfl) rfl) ?_
      refine zA rfl (zA0 (v := .bool _) rfl) ?_
      refine zAi rfl rfl (rfl) ?_
      refine zA rfl (zA0 (v := .pointer (some _)) rfl) ?_
      refine zAi rfl rfl (rfl) ?_
      refine zA9 rfl en21 (zEb hs) ?_
      clear hs
      rintro _ w ⟨u6, rfl, hs⟩
      refine zAi rfl rfl (rfl) ?_
      refine zA rfl (zA0 (v := .pointer (some _)) rfl) ?_
      refine zAi rfl rfl (rfl) ?_
      refine zA9 rfl en22 (zDj (hs.arr [0, 4, 1, 2, 3] 5 (by decide))) ?_
      clear hs
      rintro _ w ⟨⟨b6, rfl, hb6⟩, hs⟩
      obtain rfl : b6 = true := hb6.2 (EqV.rfl' _)
      refine zA rfl (zAj (v := .bool _) rfl (rfl) rfl) ?_
      refine zA rfl (zA0 (v := .bool _) rfl) ?_
      refine zAi rfl rfl (rfl) ?_
      refine zA rfl (zA0 (v := .pointer (some _)) rfl) ?_
      refine zAi rfl rfl (rfl) ?_
      refine zA9 rfl en20 (zEz (hs.arr [2, 0, 1, 3, 4] 5 (by decide))) ?_
      clear hs
      rintro _ w ⟨rfl, hs⟩
      refine zAi rfl rfl (rfl) ?_
      refine zA rfl (zA0 (v := .pointer (some _)) rfl) ?_
      refine zAi rfl rfl (rfl) ?_
      refine zA9 rfl en20 (zEz (hs.arr [4, 0, 1, 2, 3] 5 (by decide))) ?_
      clear hs
      rintro _ w ⟨rfl, hs⟩
      refine zAi rfl rfl (rfl) ?_
      refine zA rfl (zBu rfl rfl) ?_
      refine zA rfl (zAj (v := .bool _) rfl (rfl) rfl) ?_
      refine zA rfl (zA2 (v := .bool _) rfl) ?_
      refine zA4 ?_
      refine zAf ?_
      refine zBj (v := .bool _) rfl rfl ?_
      exact ⟨_, rfl, zCs (decide_eq_true rfl), hs.nil⟩
end Go.Proofs.YtdkgdjnbpjjfmaaGreatDoor
