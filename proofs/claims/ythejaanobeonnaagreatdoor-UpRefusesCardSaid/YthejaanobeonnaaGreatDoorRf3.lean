/- The document's ValidManifest. The document's Make; the manifests of the statements. The document's Make; the manifests of the statements. A view's methods: New, State, Refers, Apply. A kind and a manifest, put together. A view's Apply. max. A view's Next. vint.Put, over chunks. How a sign is turned. Bytes: a copy. The disk in plain words: files by their numbers, names that lead to them, what is kept, changes. The disk in plain words: what every call keeps. The disk in plain words: a crash. The disk in plain words: what a call does while the power is there. The disk in memory: chunks. The disk, over chunks: New, begin, file, find, apply, change. crc.Seal, crc.Open, slices.Equal of bytes, over chunks; vint.Put. Manifests as bytes. -/
import Derived.Test.YthejaanobeonnaaGreatDoorRf2
import Derived.Test.YthejaanobeonnaaGreatDoorRf1
import Derived.Laws.IdiomStrings
set_option linter.all false
namespace Go.Proofs.YthejaanobeonnaaGreatDoor
section
open Go.RowKit
attribute [local irreducible] zAh
variable {g w : World} {L M : List HP} {ad : Nat → Addr} {p : Nat}
theorem rangeBad_T {x : Mf} (h : rightT x.time = false) : zBe x = true := by
  simp only [rightT, Bool.and_eq_false_iff, decide_eq_false_iff_not] at h; simp only [zBe, Bool.or_eq_true, decide_eq_true_eq]
  omega
theorem rangeBad_no {x : Mf} (h1 : ¬ x.id < 0) (h2 : ¬ 2147483647 < x.id) (h3 : zEc x.base = true) (h4 : zEc x.fin = true) (h5 : rightT x.time = true) (h6 : ¬ x.fin ≤ x.base) : zBe x = false := by
  simp only [rightT, Bool.and_eq_true, decide_eq_true_eq] at h5
  simp [zBe, h1, h2, h3, h4, h5, h6]
set_option maxRecDepth 100000 in
set_option maxHeartbeats 1000000 in
theorem rManifest_sl (hs : Mem g w L) {m : Mf} {e o : SA} (hm : MfR g L m e o) (hob : m.obs.length ≤ 1000000) : Calls Tryz.prog 23 #[.agg (mfL m e o).toArray] w (Ret fun v w' => v = fltV (mfF m) ∧ Mem g w' L) := by
  obtain ⟨ea, ec⟩ := e; obtain ⟨oa, oc⟩ := o; refine zAf Tryz.func23 rfl rfl ?_
  skip
  refine zA3 (zA1 ?_); refine zBh (v := .agg _) hs rfl rfl ?_; clear hs; intro b1 w hs
  try simp only [zzs, zzz] at hs
  refine zBn hs rfl ze42 ?_; clear hs; intro b2 w hs
  try simp only [zzs, zzz] at hs
  refine zA6 ?_; refine zA3 ?_; refine zA3 (zA1 ?_); refine zA rfl (zA4 (o' := 0) zCb rfl sz3 rfl rfl rfl) ?_; refine zA rfl (zA7 uz3 rfl rfl (hs.cellAt 1 rfl rfl)) ?_; refine zA rfl (zB9 rfl rfl) ?_; refine zA rfl (zA2 (v := .bool _) rfl) ?_; refine zB0 (t := _) (d := 11) rfl ?_ ?_
  ·
   intro h10; have g10 := of_decide_eq_true h10; refine zA9 rfl rfl rfl h10 ?_; refine zA9 rfl rfl rfl h10 ?_; refine zA9 rfl rfl rfl h10 ?_; refine zA rfl (zAk (v := .bool _) rfl h10 rfl) ?_; refine zA rfl (zA2 (v := .bool _) rfl) ?_; refine zA9 rfl rfl rfl rfl ?_; refine zA9 rfl rfl rfl rfl ?_; refine zA9 rfl rfl rfl rfl ?_; refine zA9 rfl rfl rfl rfl ?_; refine zA rfl (zAk (v := .bool _) rfl rfl rfl) ?_; refine zA rfl (zA2 (v := .bool _) rfl) ?_; refine zA9 rfl rfl rfl rfl ?_; refine zA9 rfl rfl rfl rfl ?_; refine zA9 rfl rfl rfl rfl ?_; refine zA9 rfl rfl rfl rfl ?_; refine zA rfl (zAk (v := .bool _) rfl rfl rfl) ?_; refine zA rfl (zA2 (v := .bool _) rfl) ?_
   refine zA9 rfl rfl rfl rfl ?_; refine zA9 rfl rfl rfl rfl ?_; refine zA9 rfl rfl rfl rfl ?_; refine zA9 rfl rfl rfl rfl ?_; refine zA rfl (zAk (v := .bool _) rfl rfl rfl) ?_; refine zA rfl (zA2 (v := .bool _) rfl) ?_; refine zA9 rfl rfl rfl rfl ?_; refine zA9 rfl rfl rfl rfl ?_; refine zA9 rfl rfl rfl rfl ?_; refine zA9 rfl rfl rfl rfl ?_; refine zA9 rfl rfl rfl rfl ?_; refine zA rfl (zAk (v := .bool _) rfl rfl rfl) ?_; refine zA6 ?_; refine zB6 rfl rfl ?_; refine zA3 (zA1 ?_); refine zAb rfl en24 (zD0 hs 105) ?_; clear hs; rintro _ w ⟨rfl, hs⟩; refine zAn hs 0 rfl rfl rfl zE4 rfl rfl ?_; clear hs; intro w hs
   try simp only [zzs, zzz] at hs
   refine zA6 ?_; refine zAc ?_; refine resG [(.cell 2 42, .agg _)] rfl ⟨⟨_, rfl, zC2 hs 0 rfl uz42 zE4⟩, trivial⟩ ?_
   have hr : zBe m = true := by simp [zBe, *]
   exact ⟨_, rfl, by rw [mfF, if_pos hr]; rfl, hs.tail.tail⟩
  ·
   intro h10; have g10 := of_decide_eq_false h10; refine zAi rfl rfl h10 ?_; refine zA rfl (zA4 (o' := 0) zCb rfl sz3 rfl rfl rfl) ?_; refine zAi rfl rfl h10 ?_; refine zA rfl (zA7 uz3 rfl rfl (hs.cellAt 1 rfl rfl)) ?_; refine zAi rfl rfl h10 ?_; refine zA rfl (zBl rfl rfl) ?_; refine zA rfl (zAg (v := .bool _) rfl h10 rfl) ?_; refine zA rfl (zA2 (v := .bool _) rfl) ?_; refine zB0 (t := _) (d := 16) rfl ?_ ?_
   ·
    intro h14; have g14 := of_decide_eq_true h14; refine zA9 rfl rfl rfl h14 ?_; refine zA9 rfl rfl rfl h14 ?_; refine zA9 rfl rfl rfl h14 ?_; refine zA9 rfl rfl rfl h14 ?_; refine zA rfl (zAk (v := .bool _) rfl h14 rfl) ?_; refine zA rfl (zA2 (v := .bool _) rfl) ?_; refine zA9 rfl rfl rfl rfl ?_; refine zA9 rfl rfl rfl rfl ?_; refine zA9 rfl rfl rfl rfl ?_; refine zA9 rfl rfl rfl rfl ?_; refine zA rfl (zAk (v := .bool _) rfl rfl rfl) ?_; refine zA rfl (zA2 (v := .bool _) rfl) ?_; refine zA9 rfl rfl rfl rfl ?_; refine zA9 rfl rfl rfl rfl ?_; refine zA9 rfl rfl rfl rfl ?_; refine zA9 rfl rfl rfl rfl ?_; refine zA rfl (zAk (v := .bool _) rfl rfl rfl) ?_
    refine zA rfl (zA2 (v := .bool _) rfl) ?_; refine zA9 rfl rfl rfl rfl ?_; refine zA9 rfl rfl rfl rfl ?_; refine zA9 rfl rfl rfl rfl ?_; refine zA9 rfl rfl rfl rfl ?_; refine zA9 rfl rfl rfl rfl ?_; refine zA rfl (zAk (v := .bool _) rfl rfl rfl) ?_; refine zA6 ?_; refine zB6 rfl rfl ?_; refine zA3 (zA1 ?_); refine zAb rfl en24 (zD0 hs 105) ?_; clear hs; rintro _ w ⟨rfl, hs⟩; refine zAn hs 0 rfl rfl rfl zE4 rfl rfl ?_; clear hs; intro w hs
    try simp only [zzs, zzz] at hs
    refine zA6 ?_; refine zAc ?_; refine resG [(.cell 2 42, .agg _)] rfl ⟨⟨_, rfl, zC2 hs 0 rfl uz42 zE4⟩, trivial⟩ ?_
    have hr : zBe m = true := by simp [zBe, *]
    exact ⟨_, rfl, by rw [mfF, if_pos hr]; rfl, hs.tail.tail⟩
   ·
    intro h14; have g14 := of_decide_eq_false h14; refine zAi rfl rfl h14 ?_; refine zA rfl (zA4 (o' := 1) zCb rfl sz2 rfl rfl rfl) ?_; refine zAi rfl rfl h14 ?_; refine zA rfl (zA7 uz2 rfl rfl (hs.cellAt 1 rfl rfl)) ?_; refine zAi rfl rfl h14 ?_; refine zAb rfl en57 (rRight_sl hs m.base) ?_; clear hs; rintro _ w ⟨rfl, hs⟩; refine zAi rfl rfl h14 ?_; refine zA rfl (zBt rfl) ?_; refine zA rfl (zAg (v := .bool _) rfl h14 rfl) ?_; refine zA rfl (zA2 (v := .bool _) rfl) ?_; refine zB0 (t := _) (d := 22) rfl ?_ ?_
    ·
     intro h19; replace h19 := zEu h19; refine zA9 rfl rfl rfl (zCd h19) ?_; refine zA9 rfl rfl rfl (zCd h19) ?_; refine zA9 rfl rfl rfl (zCd h19) ?_; refine zA9 rfl rfl rfl (zCd h19) ?_; refine zA rfl (zAk (v := .bool _) rfl (zCd h19) rfl) ?_; refine zA rfl (zA2 (v := .bool _) rfl) ?_; refine zA9 rfl rfl rfl rfl ?_; refine zA9 rfl rfl rfl rfl ?_; refine zA9 rfl rfl rfl rfl ?_; refine zA9 rfl rfl rfl rfl ?_; refine zA rfl (zAk (v := .bool _) rfl rfl rfl) ?_; refine zA rfl (zA2 (v := .bool _) rfl) ?_; refine zA9 rfl rfl rfl rfl ?_; refine zA9 rfl rfl rfl rfl ?_; refine zA9 rfl rfl rfl rfl ?_; refine zA9 rfl rfl rfl rfl ?_; refine zA9 rfl rfl rfl rfl ?_
     refine zA rfl (zAk (v := .bool _) rfl rfl rfl) ?_; refine zA6 ?_; refine zB6 rfl rfl ?_; refine zA3 (zA1 ?_); refine zAb rfl en24 (zD0 hs 105) ?_; clear hs; rintro _ w ⟨rfl, hs⟩; refine zAn hs 0 rfl rfl rfl zE4 rfl rfl ?_; clear hs; intro w hs
     try simp only [zzs, zzz] at hs
     refine zA6 ?_; refine zAc ?_; refine resG [(.cell 2 42, .agg _)] rfl ⟨⟨_, rfl, zC2 hs 0 rfl uz42 zE4⟩, trivial⟩ ?_
     have hr : zBe m = true := by simp [zBe, *]
     exact ⟨_, rfl, by rw [mfF, if_pos hr]; rfl, hs.tail.tail⟩
    ·
     intro h19; replace h19 := zE0 h19; refine zAi rfl rfl (zBj h19) ?_; refine zA rfl (zA4 (o' := 2) zCb rfl sz2 rfl rfl rfl) ?_; refine zAi rfl rfl (zBj h19) ?_; refine zA rfl (zA7 uz2 rfl rfl (hs.cellAt 1 rfl rfl)) ?_; refine zAi rfl rfl (zBj h19) ?_; refine zAb rfl en57 (rRight_sl hs m.fin) ?_; clear hs; rintro _ w ⟨rfl, hs⟩; refine zAi rfl rfl (zBj h19) ?_; refine zA rfl (zBt rfl) ?_; refine zA rfl (zAg (v := .bool _) rfl (zBj h19) rfl) ?_; refine zA rfl (zA2 (v := .bool _) rfl) ?_; refine zB0 (t := _) (d := 28) rfl ?_ ?_
     ·
      intro h25; replace h25 := zEu h25; refine zA9 rfl rfl rfl (zCd h25) ?_; refine zA9 rfl rfl rfl (zCd h25) ?_; refine zA9 rfl rfl rfl (zCd h25) ?_; refine zA9 rfl rfl rfl (zCd h25) ?_; refine zA rfl (zAk (v := .bool _) rfl (zCd h25) rfl) ?_; refine zA rfl (zA2 (v := .bool _) rfl) ?_; refine zA9 rfl rfl rfl rfl ?_; refine zA9 rfl rfl rfl rfl ?_; refine zA9 rfl rfl rfl rfl ?_; refine zA9 rfl rfl rfl rfl ?_; refine zA9 rfl rfl rfl rfl ?_; refine zA rfl (zAk (v := .bool _) rfl rfl rfl) ?_; refine zA6 ?_; refine zB6 rfl rfl ?_; refine zA3 (zA1 ?_); refine zAb rfl en24 (zD0 hs 105) ?_; clear hs; rintro _ w ⟨rfl, hs⟩; refine zAn hs 0 rfl rfl rfl zE4 rfl rfl ?_; clear hs; intro w hs
      try simp only [zzs, zzz] at hs
      refine zA6 ?_; refine zAc ?_; refine resG [(.cell 2 42, .agg _)] rfl ⟨⟨_, rfl, zC2 hs 0 rfl uz42 zE4⟩, trivial⟩ ?_
      have hr : zBe m = true := by simp [zBe, *]
      exact ⟨_, rfl, by rw [mfF, if_pos hr]; rfl, hs.tail.tail⟩
     ·
      intro h25; replace h25 := zE0 h25; refine zAi rfl rfl (zBj h25) ?_; refine zA rfl (zA4 (o' := 3) zCb rfl sz2 rfl rfl rfl) ?_; refine zAi rfl rfl (zBj h25) ?_; refine zA rfl (zA7 uz2 rfl rfl (hs.cellAt 1 rfl rfl)) ?_; refine zAi rfl rfl (zBj h25) ?_; refine zAb rfl en58 (rTime_sl hs m.time) ?_; clear hs; rintro _ w ⟨rfl, hs⟩; refine zAi rfl rfl (zBj h25) ?_; refine zA rfl (zBt rfl) ?_; refine zA rfl (zAg (v := .bool _) rfl (zBj h25) rfl) ?_; refine zA rfl (zA2 (v := .bool _) rfl) ?_; refine zB0 (t := _) (d := 34) rfl ?_ ?_
      ·
       intro h31; replace h31 := zEu h31; refine zA9 rfl rfl rfl (zCd h31) ?_; refine zA9 rfl rfl rfl (zCd h31) ?_; refine zA9 rfl rfl rfl (zCd h31) ?_; refine zA9 rfl rfl rfl (zCd h31) ?_; refine zA9 rfl rfl rfl (zCd h31) ?_; refine zA rfl (zAk (v := .bool _) rfl (zCd h31) rfl) ?_; refine zA6 ?_; refine zB6 rfl rfl ?_; refine zA3 (zA1 ?_); refine zAb rfl en24 (zD0 hs 105) ?_; clear hs; rintro _ w ⟨rfl, hs⟩; refine zAn hs 0 rfl rfl rfl zE4 rfl rfl ?_; clear hs; intro w hs
       try simp only [zzs, zzz] at hs
       refine zA6 ?_; refine zAc ?_; refine resG [(.cell 2 42, .agg _)] rfl ⟨⟨_, rfl, zC2 hs 0 rfl uz42 zE4⟩, trivial⟩ ?_
       have hr : zBe m = true := by exact rangeBad_T h31
       exact ⟨_, rfl, by rw [mfF, if_pos hr]; rfl, hs.tail.tail⟩
      ·
       intro h31; replace h31 := zE0 h31; refine zAi rfl rfl (zBj h31) ?_; refine zA rfl (zA4 (o' := 2) zCb rfl sz2 rfl rfl rfl) ?_; refine zAi rfl rfl (zBj h31) ?_; refine zA rfl (zA7 uz2 rfl rfl (hs.cellAt 1 rfl rfl)) ?_; refine zAi rfl rfl (zBj h31) ?_; refine zA rfl (zA4 (o' := 1) zCb rfl sz2 rfl rfl rfl) ?_; refine zAi rfl rfl (zBj h31) ?_; refine zA rfl (zA7 uz2 rfl rfl (hs.cellAt 1 rfl rfl)) ?_; refine zAi rfl rfl (zBj h31) ?_; refine zA rfl (zDx rfl rfl) ?_; refine zA rfl (zAg (v := .bool _) rfl (zBj h31) rfl) ?_; refine zA6 ?_; refine zB rfl ?_ ?_
       ·
        intro h39; have g39 := of_decide_eq_true h39; refine zA3 (zA1 ?_); refine zAb rfl en24 (zD0 hs 105) ?_; clear hs; rintro _ w ⟨rfl, hs⟩; refine zAn hs 0 rfl rfl rfl zE4 rfl rfl ?_; clear hs; intro w hs
        try simp only [zzs, zzz] at hs
        refine zA6 ?_; refine zAc ?_; refine resG [(.cell 2 42, .agg _)] rfl ⟨⟨_, rfl, zC2 hs 0 rfl uz42 zE4⟩, trivial⟩ ?_
        have hr : zBe m = true := by simp [zBe, *]
        exact ⟨_, rfl, by rw [mfF, if_pos hr]; rfl, hs.tail.tail⟩
       ·
        intro h39; have g39 := of_decide_eq_false h39; have hr := rangeBad_no g10 g14 h19 h25 h31 g39; refine zAd ?_; refine zA3 (zA1 ?_); refine zA rfl (zA4 (o' := 4) zCb rfl sz36 rfl rfl rfl) ?_; refine zA rfl (zA7 zDq rfl rfl (hs.cellAt 1 rfl rfl)) ?_; refine zAb rfl en59 (rPairs_sl hs hm.eps.cons.cons rfl) ?_; clear hs; rintro _ w ⟨rfl, hs⟩; refine zA rfl (zA0 (v := .int .i64 _) rfl) ?_; refine zA6 ?_; refine zA3 ?_; refine zA3 (zA1 ?_); refine zA rfl (zA2 (v := .int .i64 _) rfl) ?_; refine zA rfl (zCf rfl rfl) ?_; refine zA6 ?_; refine zB rfl ?_ ?_
        ·
         intro h46; have g46 := zEt h46; refine zA3 (zA1 ?_); refine zA rfl (zA2 (v := .int .i64 _) rfl) ?_; refine zAb rfl en24 (zD0 hs (epF m.eps)) ?_; clear hs; rintro _ w ⟨rfl, hs⟩; refine zAn hs 0 rfl rfl rfl zE4 rfl rfl ?_; clear hs; intro w hs
         try simp only [zzs, zzz] at hs
         refine zA6 ?_; refine zAc ?_; refine resG [(.cell 2 42, .agg _)] rfl ⟨⟨_, rfl, zC2 hs 0 rfl uz42 zE4⟩, trivial⟩ ?_; exact ⟨_, rfl, by rw [mfF, if_neg (by rw [hr]; decide), if_pos (by omega)]; rfl, hs.tail.tail⟩
        ·
         intro h46; have g46 := zEs h46
         have hep : ¬ epF m.eps ≠ 0 := by omega
         have hlen := epF_len (show epF m.eps = 0 by omega); refine zAd ?_; refine zA3 (zA1 ?_); refine zA rfl (zA4 (o' := 4) zCb rfl sz36 rfl rfl rfl) ?_; refine zA rfl (zA7 zDq rfl rfl (hs.cellAt 1 rfl rfl)) ?_; refine zA rfl (zAt zDq rfl) ?_; refine zA rfl (zA0 (v := .int .i64 _) rfl) ?_; refine zA6 ?_; refine zA3 ?_; refine zA3 ?_; refine zAp zBk hs ?_; intro w tr hK; replace hs := tr _ hs; clear tr; refine zA5 0 rfl rfl (fun w hs => zA2 (v := .int .i64 _) rfl) hK ?_; refine zA5 1 rfl rfl (fun w hs => zBo rfl rfl) hK ?_; refine zA5 2 rfl rfl (fun w hs => zA2 (v := .bool _) rfl) hK ?_; refine zGb (t := _) (d := 54) rfl ?_ ?_
         ·
          intro h53; have g53 := of_decide_eq_true h53; refine zAj 3 rfl rfl rfl rfl h53 hK ?_; refine zAj 4 rfl rfl rfl rfl h53 hK ?_; refine zAj 5 rfl rfl rfl rfl h53 hK ?_; refine zAj 6 rfl rfl rfl rfl h53 hK ?_; refine zAj 7 rfl rfl rfl rfl h53 hK ?_; refine zAj 8 rfl rfl rfl rfl h53 hK ?_; refine zAj 9 rfl rfl rfl rfl h53 hK ?_; refine zAj 10 rfl rfl rfl rfl h53 hK ?_; refine zA5 11 rfl rfl (fun w hs => zAk (v := .bool _) rfl h53 rfl) hK ?_; refine zA5 12 rfl rfl (fun w hs => zA2 (v := .bool _) rfl) hK ?_; refine zAj 13 rfl rfl rfl rfl rfl hK ?_; refine zAj 14 rfl rfl rfl rfl rfl hK ?_; refine zAj 15 rfl rfl rfl rfl rfl hK ?_; refine zAj 16 rfl rfl rfl rfl rfl hK ?_
          refine zAj 17 rfl rfl rfl rfl rfl hK ?_; refine zAj 18 rfl rfl rfl rfl rfl hK ?_; refine zAj 19 rfl rfl rfl rfl rfl hK ?_; refine zAj 20 rfl rfl rfl rfl rfl hK ?_; refine zAj 21 rfl rfl rfl rfl rfl hK ?_; refine zAj 22 rfl rfl rfl rfl rfl hK ?_; refine zA5 23 rfl rfl (fun w hs => zAk (v := .bool _) rfl rfl rfl) hK ?_; refine zAr (by kernel_rfl) ?_; clear hK; refine zB6 rfl rfl ?_; refine zA3 (zA1 ?_); refine zAb rfl en24 (zD0 hs 103) ?_; clear hs; rintro _ w ⟨rfl, hs⟩; refine zAn hs 0 rfl rfl rfl zE4 rfl rfl ?_; clear hs; intro w hs
          try simp only [zzs, zzz] at hs
          refine zA6 ?_; refine zAc ?_; refine resG [(.cell 2 42, .agg _)] rfl ⟨⟨_, rfl, zC2 hs 0 rfl uz42 zE4⟩, trivial⟩ ?_; exact ⟨_, rfl, by rw [mfF, if_neg (by rw [hr]; decide), if_neg hep, if_pos (by rw [zD, decide_eq_true (show m.eps.length = 0 by omega)]; rfl)]; rfl, hs.tail.tail⟩
         ·
          intro h53; have g53 := of_decide_eq_false h53; obtain ⟨y0, hy0⟩ : ∃ y, m.eps[0]? = some y := ⟨_, List.getElem?_eq_getElem (by omega)⟩; obtain ⟨y1, hy1⟩ : ∃ y, m.eps[m.eps.length - 1]? = some y := ⟨_, List.getElem?_eq_getElem (by omega)⟩; obtain ⟨b9, o9, rfl⟩ := hm.eps.cons.cons.at hs (by rw [zEj]; omega); refine zAq 3 rfl rfl rfl rfl h53 (fun w hs => zA4 (o' := 4) zCb rfl sz36 rfl rfl rfl) hK ?_; refine zAq 4 rfl rfl rfl rfl h53 (fun w hs => zA7 zDq rfl rfl (hs.cellAt 1 rfl rfl)) hK ?_; refine zAq 5 rfl rfl rfl rfl h53 (fun w hs => zAs zDq sz46 rfl rfl (i := 0) rfl (by omega) rfl) hK ?_; refine zAq 6 rfl rfl rfl rfl h53 (fun w hs => zA4 uz46 rfl sz2 rfl rfl rfl) hK ?_
          refine zAq 7 rfl rfl rfl rfl h53 (fun w hs => zA7 uz2 rfl rfl (hm.eps.cons.cons.cell hs (zE5 hy0) (j := 1) rfl)) hK ?_; refine zAq 8 rfl rfl rfl rfl h53 (fun w hs => zA4 (o' := 1) zCb rfl sz2 rfl rfl rfl) hK ?_; refine zAq 9 rfl rfl rfl rfl h53 (fun w hs => zA7 uz2 rfl rfl (hs.cellAt 1 rfl rfl)) hK ?_; refine zAq 10 rfl rfl rfl rfl h53 (fun w hs => zCf rfl rfl) hK ?_; refine zA5 11 rfl rfl (fun w hs => zAg (v := .bool _) rfl h53 rfl) hK ?_; refine zA5 12 rfl rfl (fun w hs => zA2 (v := .bool _) rfl) hK ?_; refine zGb (t := _) (d := 64) rfl ?_ ?_
          ·
           intro h62; have g62 := zEt h62; refine zAj 13 rfl rfl rfl rfl h62 hK ?_; refine zAj 14 rfl rfl rfl rfl h62 hK ?_; refine zAj 15 rfl rfl rfl rfl h62 hK ?_; refine zAj 16 rfl rfl rfl rfl h62 hK ?_; refine zAj 17 rfl rfl rfl rfl h62 hK ?_; refine zAj 18 rfl rfl rfl rfl h62 hK ?_; refine zAj 19 rfl rfl rfl rfl h62 hK ?_; refine zAj 20 rfl rfl rfl rfl h62 hK ?_; refine zAj 21 rfl rfl rfl rfl h62 hK ?_; refine zAj 22 rfl rfl rfl rfl h62 hK ?_; refine zA5 23 rfl rfl (fun w hs => zAk (v := .bool _) rfl h62 rfl) hK ?_; refine zAr (by kernel_rfl) ?_; clear hK; refine zB6 rfl rfl ?_; refine zA3 (zA1 ?_); refine zAb rfl en24 (zD0 hs 103) ?_; clear hs; rintro _ w ⟨rfl, hs⟩
           refine zAn hs 0 rfl rfl rfl zE4 rfl rfl ?_; clear hs; intro w hs
           try simp only [zzs, zzz] at hs
           refine zA6 ?_; refine zAc ?_; refine resG [(.cell 2 42, .agg _)] rfl ⟨⟨_, rfl, zC2 hs 0 rfl uz42 zE4⟩, trivial⟩ ?_; exact ⟨_, rfl, by rw [mfF, if_neg (by rw [hr]; decide), if_neg hep, if_pos (by simp only [zD, pr_get hy0, pr_get hy1]; simp; omega)]; rfl, hs.tail.tail⟩
          ·
           intro h62; have g62 := zEs h62; refine zAq 13 rfl rfl rfl rfl h62 (fun w hs => zA4 (o' := 4) zCb rfl sz36 rfl rfl rfl) hK ?_; refine zAq 14 rfl rfl rfl rfl h62 (fun w hs => zA7 zDq rfl rfl (hs.cellAt 1 rfl rfl)) hK ?_; refine zAq 15 rfl rfl rfl rfl h62 (fun w hs => zA2 (v := .int .i64 _) rfl) hK ?_; refine zAq 16 rfl rfl rfl rfl h62 (fun w hs => zC8 rfl rfl (c := ((m.eps.length - 1 : Nat) : Int)) (by omega) (inI (by omega) (by omega))) hK ?_; refine zAq 17 rfl rfl rfl rfl h62 (fun w hs => zAs zDq sz46 rfl rfl rfl (by omega) rfl) hK ?_; refine zAq 18 rfl rfl rfl rfl h62 (fun w hs => zA4 uz46 rfl sz2 rfl rfl rfl) hK ?_
           refine zAq 19 rfl rfl rfl rfl h62 (fun w hs => zA7 uz2 rfl rfl (hm.eps.cons.cons.cell hs (zE5 hy1) (j := 1) rfl)) hK ?_; refine zAq 20 rfl rfl rfl rfl h62 (fun w hs => zA4 (o' := 2) zCb rfl sz2 rfl rfl rfl) hK ?_; refine zAq 21 rfl rfl rfl rfl h62 (fun w hs => zA7 uz2 rfl rfl (hs.cellAt 1 rfl rfl)) hK ?_; refine zAq 22 rfl rfl rfl rfl h62 (fun w hs => zCw rfl rfl) hK ?_; refine zA5 23 rfl rfl (fun w hs => zAg (v := .bool _) rfl h62 rfl) hK ?_; refine zAr (by kernel_rfl) ?_; clear hK; refine zB rfl ?_ ?_
           ·
            intro h74; have g74 := of_decide_eq_true h74; refine zA3 (zA1 ?_); refine zAb rfl en24 (zD0 hs 103) ?_; clear hs; rintro _ w ⟨rfl, hs⟩; refine zAn hs 0 rfl rfl rfl zE4 rfl rfl ?_; clear hs; intro w hs
            try simp only [zzs, zzz] at hs
            refine zA6 ?_; refine zAc ?_; refine resG [(.cell 2 42, .agg _)] rfl ⟨⟨_, rfl, zC2 hs 0 rfl uz42 zE4⟩, trivial⟩ ?_; exact ⟨_, rfl, by rw [mfF, if_neg (by rw [hr]; decide), if_neg hep, if_pos (by simp only [zD, pr_get hy0, pr_get hy1]; simp; omega)]; rfl, hs.tail.tail⟩
           ·
            intro h74; have g74 := of_decide_eq_false h74; refine zAd ?_; refine zA3 ?_; refine zA3 ?_
            have hsb : zD m = false := by rw [zD, pr_get hy0, pr_get hy1, decide_eq_false (show ¬ m.eps.length = 0 by omega), decide_eq_false (show ¬ y0.2 ≠ m.base by omega), decide_eq_false (show ¬ m.fin ≤ y1.2 by omega)]; rfl
            have hF : mfF m = obF m.obs := by rw [mfF, if_neg (by rw [hr]; decide), if_neg hep, if_neg (by rw [hsb]; decide)]
            rw [hF]; refine zA1 ?_; refine zA rfl (zA4 (o' := 5) zCb rfl sz37 rfl rfl rfl) ?_; refine zA rfl (zA7 zDf rfl rfl (hs.cellAt 1 rfl rfl)) ?_; refine zA rfl (zAt zDf rfl) ?_; refine zA rfl (zBo rfl rfl) ?_; refine zA rfl (zA2 (v := .bool _) rfl) ?_; refine zB0 (t := _) (d := 81) rfl ?_ ?_
            ·
             intro h80; have g80 := of_decide_eq_true h80; refine zA9 rfl rfl rfl h80 ?_; refine zA9 rfl rfl rfl h80 ?_; refine zA9 rfl rfl rfl h80 ?_; refine zA9 rfl rfl rfl h80 ?_; refine zA rfl (zAk (v := .bool _) rfl h80 rfl) ?_; refine zA6 ?_; refine zB6 rfl rfl ?_; refine zA3 (zA1 ?_); refine zAb rfl en24 (zD0 hs 104) ?_; clear hs; rintro _ w ⟨rfl, hs⟩; refine zAn hs 0 rfl rfl rfl zE4 rfl rfl ?_; clear hs; intro w hs
             try simp only [zzs, zzz] at hs
             refine zA6 ?_; refine zAc ?_; refine resG [(.cell 2 42, .agg _)] rfl ⟨⟨_, rfl, zC2 hs 0 rfl uz42 zE4⟩, trivial⟩ ?_; exact ⟨_, rfl, by rw [obF, if_pos (by omega)]; rfl, hs.tail.tail⟩
            ·
             intro h80; have g80 := of_decide_eq_false h80; refine zAi rfl rfl h80 ?_; refine zA rfl (zA4 (o' := 5) zCb rfl sz37 rfl rfl rfl) ?_; refine zAi rfl rfl h80 ?_; refine zA rfl (zA7 zDf rfl rfl (hs.cellAt 1 rfl rfl)) ?_; refine zAi rfl rfl h80 ?_; refine zA rfl (zAt zDf rfl) ?_; refine zAi rfl rfl h80 ?_; refine zA rfl (zBl rfl rfl) ?_; refine zA rfl (zAg (v := .bool _) rfl h80 rfl) ?_; refine zA6 ?_; refine zB rfl ?_ ?_
             ·
              intro h85; have g85 := of_decide_eq_true h85; refine zA3 (zA1 ?_); refine zAb rfl en24 (zD0 hs 104) ?_; clear hs; rintro _ w ⟨rfl, hs⟩; refine zAn hs 0 rfl rfl rfl zE4 rfl rfl ?_; clear hs; intro w hs
              try simp only [zzs, zzz] at hs
              refine zA6 ?_; refine zAc ?_; refine resG [(.cell 2 42, .agg _)] rfl ⟨⟨_, rfl, zC2 hs 0 rfl uz42 zE4⟩, trivial⟩ ?_; exact ⟨_, rfl, by rw [obF, if_pos (by omega)]; rfl, hs.tail.tail⟩
             ·
              intro h85; have g85 := of_decide_eq_false h85; refine zAd ?_; refine zA3 ?_; refine zA3 (zA1 ?_); refine zA rfl (zA0 (v := .int .i64 _) rfl) ?_; refine zA6 ?_; refine zAo ?_; refine zBr (X := Nat) [5, 88, 89, 90, 91, 92, 93, 94, 95, 96, 97, 98, 99, 100, 101, 102, 103, 104, 105, 106, 107, 108, 109, 110, 111, 112, 113, 114, 115, 116, 117, 118, 119, 120, 121, 122] (fun k => [(5, .int .i64 (k : Nat))]) (fun k w => k ≤ m.obs.length ∧ (∀ j, j < k → ∀ u, m.obs[j]? = some u → zCv u = 0) ∧ Mem g w (cells b2 [.int .i64 0, .bool false, .int .i64 0] 42 :: cells b1 (mfL m (some ⟨b9, o9, none⟩, ec) (oa, oc)) 39 :: L)) (fun k => m.obs.length - k) (0) ?_ ?_ ?_
              · exact ⟨rfl, trivial⟩
              · exact ⟨Nat.zero_le _, fun j h => by omega, hs⟩
              clear hs; rintro x ξ w hI; obtain ⟨hk, hq, hs⟩ := hI; refine zA3 ?_; refine zA3 (zA1 ?_); refine zA rfl (zA2 (v := .int .i64 _) rfl) ?_; refine zA rfl (zA4 (o' := 5) zCb rfl sz37 rfl rfl rfl) ?_; refine zA rfl (zA7 zDf rfl rfl (hs.cellAt 1 rfl rfl)) ?_; refine zA rfl (zAt zDf rfl) ?_; refine zA rfl (zB9 rfl rfl) ?_; refine zA6 ?_; refine zB rfl ?_ ?_
              ·
               intro h92; have g92 := of_decide_eq_true h92; obtain ⟨y, hy⟩ : ∃ y, m.obs[x]? = some y := ⟨_, List.getElem?_eq_getElem (by omega)⟩; obtain ⟨b8, o8, rfl⟩ := hm.obs.cons.cons.at hs (by rw [zE9]; omega); refine zAd ?_; refine zA3 ?_; refine zAo ?_; refine zA3 ?_; refine zA3 (zA1 ?_); refine zA rfl (zA4 (o' := 5) zCb rfl sz37 rfl rfl rfl) ?_; refine zA rfl (zA7 zDf rfl rfl (hs.cellAt 1 rfl rfl)) ?_; refine zA rfl (zA2 (v := .int .i64 _) rfl) ?_; refine zA rfl (zAs zDf sz66 rfl rfl rfl (by omega) rfl) ?_; refine zA rfl (zA4 uz66 rfl sz9 rfl rfl rfl) ?_; refine zA rfl (zA7 uz9 rfl rfl (hm.obs.cons.cons.cell hs (zFg hy) (j := 0) rfl)) ?_
               refine zAb rfl en60 (hs.callsE (refValid_any y.1 w)) ?_; clear hs; rintro _ w ⟨rfl, hs⟩; refine zA rfl (zBt rfl) ?_; refine zA6 ?_; refine zB rfl ?_ ?_
               ·
                intro h101; replace h101 := zEu h101; refine zA3 (zA1 ?_); refine zA rfl (zA2 (v := .int .i64 _) rfl) ?_; refine zAb rfl en26 (zEd hs (c := 106) (by decide) x) ?_; clear hs; rintro _ w ⟨rfl, hs⟩; refine zAn hs 0 rfl rfl rfl zE4 rfl rfl ?_; clear hs; intro w hs
                try simp only [zzs, zzz] at hs
                refine zA6 ?_; refine zAc ?_; refine resG [(.cell 2 42, .agg _)] rfl ⟨⟨_, rfl, zC2 hs 0 rfl uz42 zE4⟩, trivial⟩ ?_
                have e : zCv y = 106 := by simp [zCv, h101]
                rw [obF_bad (by omega) hy (by rw [e]; decide) hq, e]; exact ⟨_, rfl, rfl, hs.tail.tail⟩
               ·
                intro h101; replace h101 := zE0 h101; refine zAd ?_; refine zA3 (zA1 ?_); refine zA rfl (zA4 (o' := 5) zCb rfl sz37 rfl rfl rfl) ?_; refine zA rfl (zA7 zDf rfl rfl (hs.cellAt 1 rfl rfl)) ?_; refine zA rfl (zA2 (v := .int .i64 _) rfl) ?_; refine zA rfl (zAs zDf sz66 rfl rfl rfl (by omega) rfl) ?_; refine zA rfl (zA4 uz66 rfl sz3 rfl rfl rfl) ?_; refine zA rfl (zA7 uz3 rfl rfl (hm.obs.cons.cons.cell hs (zFg hy) (j := 1) rfl)) ?_; refine zA rfl (zB9 rfl rfl) ?_; refine zA rfl (zA2 (v := .bool _) rfl) ?_; refine zB0 (t := _) (d := 112) rfl ?_ ?_
                ·
                 intro h111; have g111 := of_decide_eq_true h111; refine zA9 rfl rfl rfl h111 ?_; refine zA9 rfl rfl rfl h111 ?_; refine zA9 rfl rfl rfl h111 ?_; refine zA9 rfl rfl rfl h111 ?_; refine zA9 rfl rfl rfl h111 ?_; refine zA9 rfl rfl rfl h111 ?_; refine zA9 rfl rfl rfl h111 ?_; refine zA rfl (zAk (v := .bool _) rfl h111 rfl) ?_; refine zA6 ?_; refine zB6 rfl rfl ?_; refine zA3 (zA1 ?_); refine zA rfl (zA2 (v := .int .i64 _) rfl) ?_; refine zAb rfl en26 (zEd hs (c := 105) (by decide) x) ?_; clear hs; rintro _ w ⟨rfl, hs⟩; refine zAn hs 0 rfl rfl rfl zE4 rfl rfl ?_; clear hs; intro w hs
                 try simp only [zzs, zzz] at hs
                 refine zA6 ?_; refine zAc ?_; refine resG [(.cell 2 42, .agg _)] rfl ⟨⟨_, rfl, zC2 hs 0 rfl uz42 zE4⟩, trivial⟩ ?_
                 have e : zCv y = 105 := by simp only [zCv, h101, Bool.true_eq_false, if_false]; rw [if_pos (by omega)]
                 rw [obF_bad (by omega) hy (by rw [e]; decide) hq, e]; exact ⟨_, rfl, rfl, hs.tail.tail⟩
                ·
                 intro h111; have g111 := of_decide_eq_false h111; refine zAi rfl rfl h111 ?_; refine zA rfl (zA4 (o' := 5) zCb rfl sz37 rfl rfl rfl) ?_; refine zAi rfl rfl h111 ?_; refine zA rfl (zA7 zDf rfl rfl (hs.cellAt 1 rfl rfl)) ?_; refine zAi rfl rfl h111 ?_; refine zA rfl (zA2 (v := .int .i64 _) rfl) ?_; refine zAi rfl rfl h111 ?_; refine zA rfl (zAs zDf sz66 rfl rfl rfl (by omega) rfl) ?_; refine zAi rfl rfl h111 ?_; refine zA rfl (zA4 uz66 rfl sz3 rfl rfl rfl) ?_; refine zAi rfl rfl h111 ?_; refine zA rfl (zA7 uz3 rfl rfl (hm.obs.cons.cons.cell hs (zFg hy) (j := 1) rfl)) ?_; refine zAi rfl rfl h111 ?_; refine zA rfl (zBl rfl rfl) ?_
                 refine zA rfl (zAg (v := .bool _) rfl h111 rfl) ?_; refine zA6 ?_; refine zB rfl ?_ ?_
                 ·
                  intro h119; have g119 := of_decide_eq_true h119; refine zA3 (zA1 ?_); refine zA rfl (zA2 (v := .int .i64 _) rfl) ?_; refine zAb rfl en26 (zEd hs (c := 105) (by decide) x) ?_; clear hs; rintro _ w ⟨rfl, hs⟩; refine zAn hs 0 rfl rfl rfl zE4 rfl rfl ?_; clear hs; intro w hs
                  try simp only [zzs, zzz] at hs
                  refine zA6 ?_; refine zAc ?_; refine resG [(.cell 2 42, .agg _)] rfl ⟨⟨_, rfl, zC2 hs 0 rfl uz42 zE4⟩, trivial⟩ ?_
                  have e : zCv y = 105 := by simp only [zCv, h101, Bool.true_eq_false, if_false]; rw [if_pos (by omega)]
                  rw [obF_bad (by omega) hy (by rw [e]; decide) hq, e]; exact ⟨_, rfl, rfl, hs.tail.tail⟩
                 ·
                  intro h119; have g119 := of_decide_eq_false h119; refine zAd ?_; refine zA1 ?_; refine zA rfl (zA2 (v := .int .i64 _) rfl) ?_; refine zA rfl (zAu rfl rfl rfl (inI (by omega) (by omega))) ?_; refine zA rfl (zA0 (v := .int .i64 _) rfl) ?_; refine zA6 ?_; exact ⟨x + 1, by omega, ⟨by omega, (fun j hj u hu => by rcases Nat.lt_or_ge j x with h | h; exact hq j h u hu; obtain rfl : j = x := (by omega); rw [hy] at hu; cases hu; simp only [zCv, h101, Bool.true_eq_false, if_false]; rw [if_neg (by omega)]), hs⟩, ⟨rfl, trivial⟩, by repeat (first | exact Out.mix _ _ _ | refine Out.updo rfl ?_ | refine Out.upd rfl ?_ | refine Out.mixIn rfl ?_)⟩
              ·
               intro h92; have g92 := of_decide_eq_false h92
               have hall : ∀ (j : Nat) (u : Ob), m.obs[j]? = some u → zCv u = 0 := fun j u hu => hq j (by have := (List.getElem?_eq_some_iff.1 hu).1; omega) u hu
               refine zBp rfl ?_; refine zA3 ?_; refine zA3 (zA1 ?_); refine zA rfl (zA0 (v := .int .i64 _) rfl) ?_; refine zA6 ?_; refine zAo ?_; refine zBr (X := Nat) [6, 7, 123, 124, 125, 126, 127, 128, 129, 130, 131, 132, 133, 134, 135, 136, 137, 138, 139, 140, 141, 142, 143, 144, 145, 146, 147, 148] (fun k => [(6, .int .i64 (k : Nat))]) (fun k w => k ≤ m.obs.length ∧ ((m.obs.take k).map Prod.fst).Nodup ∧ Mem g w (cells b2 [.int .i64 0, .bool false, .int .i64 0] 42 :: cells b1 (mfL m (some ⟨b9, o9, none⟩, ec) (oa, oc)) 39 :: L)) (fun k => m.obs.length - k) (0) ?_ ?_ ?_
               · exact ⟨rfl, trivial⟩
               · exact ⟨Nat.zero_le _, by simp, hs⟩
               clear hs; rintro x ξ w hI; obtain ⟨hk1, hq1, hs⟩ := hI; refine zA3 ?_; refine zA3 (zA1 ?_); refine zA rfl (zA2 (v := .int .i64 _) rfl) ?_; refine zA rfl (zA4 (o' := 5) zCb rfl sz37 rfl rfl rfl) ?_; refine zA rfl (zA7 zDf rfl rfl (hs.cellAt 1 rfl rfl)) ?_; refine zA rfl (zAt zDf rfl) ?_; refine zA rfl (zB9 rfl rfl) ?_; refine zA6 ?_; refine zB rfl ?_ ?_
               ·
                intro h127; have g127 := of_decide_eq_true h127; obtain ⟨y, hy⟩ : ∃ y, m.obs[x]? = some y := ⟨_, List.getElem?_eq_getElem (by omega)⟩; obtain ⟨b8, o8, rfl⟩ := hm.obs.cons.cons.at hs (by rw [zE9]; omega); obtain ⟨X, hX⟩ : ∃ X, X = x := ⟨_, rfl⟩; refine zAd ?_; refine zA3 ?_; refine zAo ?_; refine zA3 (zA1 ?_); refine zA rfl (zA0 (v := .int .i64 _) rfl) ?_; refine zA6 ?_; refine zAo ?_
                refine zBr (X := Nat) [7, 130, 131, 132, 133, 134, 135, 136, 137, 138, 139, 140, 141, 142, 143, 144, 145, 146, 147, 148] (fun k => [(7, .int .i64 (k : Nat))]) (fun k w => k ≤ X ∧ ((m.obs.take k).any fun u => decide (u.1 = y.1)) = false ∧ Mem g w (cells b2 [.int .i64 0, .bool false, .int .i64 0] 42 :: cells b1 (mfL m (some ⟨b9, o9, none⟩, ec) (some ⟨b8, o8, none⟩, oc)) 39 :: L)) (fun k => X - k) (0) ?_ ?_ ?_
                · exact ⟨rfl, trivial⟩
                · exact ⟨Nat.zero_le _, by simp, hs⟩
                clear hs; rintro x ξ w hI; obtain ⟨hk2, hq2, hs⟩ := hI; refine zA3 ?_; refine zA3 (zA1 ?_); refine zA rfl (zA2 (v := .int .i64 _) rfl) ?_; refine zA rfl (zA2 (v := .int .i64 _) rfl) ?_; refine zA rfl (zB9 rfl rfl) ?_; refine zA6 ?_; refine zB rfl ?_ ?_
                ·
                 intro h132; have g132 := of_decide_eq_true h132; obtain ⟨z, hz⟩ : ∃ z, m.obs[x]? = some z := ⟨_, List.getElem?_eq_getElem (by omega)⟩; refine zAd ?_; refine zA3 ?_; refine zAo ?_; refine zA3 ?_; refine zAp zBk hs ?_; intro w tr hK; replace hs := tr _ hs; clear tr; refine zA5 0 rfl rfl (fun w hs => zA4 (o' := 5) zCb rfl sz37 rfl rfl rfl) hK ?_; refine zA5 1 rfl rfl (fun w hs => zA7 zDf rfl rfl (hs.cellAt 1 rfl rfl)) hK ?_; refine zA5 2 rfl rfl (fun w hs => zA2 (v := .int .i64 _) rfl) hK ?_; refine zA5 3 rfl rfl (fun w hs => zAs zDf sz66 rfl rfl rfl (by omega) rfl) hK ?_; refine zA5 4 rfl rfl (fun w hs => zA4 uz66 rfl sz9 rfl rfl rfl) hK ?_
                 refine zA5 5 rfl rfl (fun w hs => zA7 uz9 rfl rfl (hm.obs.cons.cons.cell hs (zFg hy) (j := 0) rfl)) hK ?_; refine zA5 6 rfl rfl (fun w hs => zA4 (o' := 5) zCb rfl sz37 rfl rfl rfl) hK ?_; refine zA5 7 rfl rfl (fun w hs => zA7 zDf rfl rfl (hs.cellAt 1 rfl rfl)) hK ?_; refine zA5 8 rfl rfl (fun w hs => zA2 (v := .int .i64 _) rfl) hK ?_; refine zA5 9 rfl rfl (fun w hs => zAs zDf sz66 rfl rfl rfl (by omega) rfl) hK ?_; refine zA5 10 rfl rfl (fun w hs => zA4 uz66 rfl sz9 rfl rfl rfl) hK ?_; refine zA5 11 rfl rfl (fun w hs => zA7 uz9 rfl rfl (hm.obs.cons.cons.cell hs (zFg hz) (j := 0) rfl)) hK ?_; refine zA5 12 rfl rfl (fun w hs => run_eqs rfl rfl) hK ?_
                 refine zAr (by kernel_rfl) ?_; clear hK; refine zB rfl ?_ ?_
                 ·
                  intro h147; have g147 := of_decide_eq_true h147; refine zA3 (zA1 ?_); refine zAb rfl en24 (zD0 hs 103) ?_; clear hs; rintro _ w ⟨rfl, hs⟩; refine zAn hs 0 rfl rfl rfl zE4 rfl rfl ?_; clear hs; intro w hs
                  try simp only [zzs, zzz] at hs
                  refine zA6 ?_; refine zAc ?_; refine resG [(.cell 2 42, .agg _)] rfl ⟨⟨_, rfl, zC2 hs 0 rfl uz42 zE4⟩, trivial⟩ ?_; exact ⟨_, rfl, by rw [obF_fine (by omega) hall, if_neg (dup_no (hX ▸ hy) (List.any_eq_true.2 ⟨z, List.mem_take_iff_getElem.2 ⟨x, by have := (List.getElem?_eq_some_iff.1 hz).1; omega, (List.getElem?_eq_some_iff.1 hz).2⟩, decide_eq_true g147.symm⟩))]; rfl, hs.tail.tail⟩
                 ·
                  intro h147; have g147 := of_decide_eq_false h147; refine zAd ?_; refine zA1 ?_; refine zA rfl (zA2 (v := .int .i64 _) rfl) ?_; refine zA rfl (zAu rfl rfl rfl (inI (by omega) (by omega))) ?_; refine zA rfl (zA0 (v := .int .i64 _) rfl) ?_; refine zA6 ?_; exact ⟨x + 1, by omega, ⟨by omega, by rw [List.take_add_one, hz, List.any_append, hq2]; simp; exact fun e => g147 e.symm, hs⟩, ⟨rfl, trivial⟩, by repeat (first | exact Out.mix _ _ _ | refine Out.updo rfl ?_ | refine Out.upd rfl ?_ | refine Out.mixIn rfl ?_)⟩
                ·
                 intro h132; have g132 := of_decide_eq_false h132; refine zBp rfl ?_; refine zA1 ?_; refine zA rfl (zA2 (v := .int .i64 _) rfl) ?_; refine zA rfl (zAu rfl rfl rfl (inI (by omega) (by omega))) ?_; refine zA rfl (zA0 (v := .int .i64 _) rfl) ?_; refine zA6 ?_
                 have e : x = X := by omega
                 subst hX; subst e; exact ⟨x + 1, by omega, ⟨by omega, nodup_next hy hq1 hq2, hs⟩, ⟨rfl, trivial⟩, by repeat (first | exact Out.mix _ _ _ | refine Out.updo rfl ?_ | refine Out.upd rfl ?_ | refine Out.mixIn rfl ?_)⟩
               ·
                intro h127; have g127 := of_decide_eq_false h127; refine zBp rfl ?_; refine zA3 (zA1 ?_); refine zAb rfl en22 (none_sl hs) ?_; clear hs; rintro _ w ⟨rfl, hs⟩; refine zAn hs 0 rfl rfl rfl zE4 rfl rfl ?_; clear hs; intro w hs
                try simp only [zzs, zzz] at hs
                refine zA6 ?_; refine zAc ?_; refine resG [(.cell 2 42, .agg _)] rfl ⟨⟨_, rfl, zC2 hs 0 rfl uz42 zE4⟩, trivial⟩ ?_
                have e : x = m.obs.length := by omega
                rw [e, List.take_length] at hq1; exact ⟨_, rfl, by rw [obF_fine (by omega) hall, if_pos hq1]; rfl, hs.tail.tail⟩
end
section
open Go.RowKit
attribute [local irreducible] zAh
variable {g w : World} {L M : List HP} {ad : Nat → Addr} {p : Nat}
theorem zEn (n : Nat) : ∀ k, (digR n k).size = k
  | 0 => rfl
  | k + 1 => by
    rw [digR, ByteArray.size_append, zEn n k]
    show 1 + k = k + 1
    omega
theorem dig_at : ∀ d, d < 10 → (⟨#[48, 49, 50, 51, 52, 53, 54, 55, 56, 57]⟩ : ByteArray).extract d (d + 1) = ⟨#[UInt8.ofNat (48 + d)]⟩ := by decide +kernel
theorem digits_sl (hs : Mem g w L) (n k : Nat) (hn : n ≤ 1099511627776) (hk : k ≤ 20) : Calls Tryz.prog 81 #[.int .i64 n, .int .i64 k] w (Ret fun v w' => v = .string (digR n k) ∧ Mem g w' L) := by
  refine zAf Tryz.func81 rfl rfl ?_
  skip
  refine zA3 (zA1 ?_); refine zA rfl (zA0 (v := .string _) rfl) ?_; refine zA6 (zA3 (zA1 ?_)); refine zA rfl (zA0 (v := .string _) rfl) ?_; refine zA6 ?_; refine zA3 ?_; refine zA3 (zA1 ?_); refine zA rfl (zA0 (v := .int .i64 _) rfl) ?_; refine zA6 ?_; refine zAo ?_; refine zBr (X := Nat × Nat) [0, 5, 6, 7, 8, 9, 10, 11, 12, 13, 14, 15, 16, 17, 18, 19, 20, 21, 22] (fun q => [(0, .int .i64 (q.2 : Nat)), (5, .string (digR n q.1)), (6, .int .i64 (q.1 : Nat))]) (fun q w => q.1 ≤ k ∧ q.2 = n / 10 ^ q.1 ∧ Mem g w L) (fun q => k - q.1) ((0, n)) ?_ ?_ ?_
  · exact ⟨rfl, rfl, rfl, trivial⟩
  · exact ⟨Nat.zero_le _, by simp, hs⟩
  clear hs; rintro x ξ w hI; obtain ⟨i, m⟩ := x; obtain ⟨hi, hm, hs⟩ := hI; simp only at hi hm hs; have hmn : m ≤ n := hm ▸ Nat.div_le_self _ _
  show cw _ _ _ _ _ _ (updL (mix _ ξ _) [(0, .int .i64 (m : Nat)), (5, .string (digR n i)), (6, .int .i64 (i : Nat))]) w
  refine zA3 ?_; refine zA3 (zA1 ?_); refine zA rfl (zA2 (v := .int .i64 _) rfl) ?_; refine zA rfl (zA2 (v := .int .i64 _) rfl) ?_; refine zA rfl (zB9 rfl rfl) ?_; refine zA6 ?_; refine zB rfl ?_ ?_
  ·
   intro h10; have g10 := of_decide_eq_true h10; refine zAd ?_; refine zA3 ?_; refine zAo ?_; refine zA3 (zA1 ?_); refine zA rfl (zA2 (v := .int .i64 _) rfl) ?_; refine zA rfl (run_rem64 rfl rfl (c := ((m % 10 : Nat) : Int)) (by omega) (by omega) (by omega)) ?_; refine zA rfl (zA0 (v := .int .i64 _) rfl) ?_; refine zA6 (zA3 (zA1 ?_)); refine zA rfl (zA2 (v := .int .i64 _) rfl) ?_; refine zA rfl (zA2 (v := .int .i64 _) rfl) ?_; refine zA rfl (zAu rfl rfl (c := ((m % 10 + 1 : Nat) : Int)) (by omega) (inI (by omega) (by omega))) ?_; refine zA rfl (run_str2 uz9 rfl rfl rfl (lo := m % 10) (hi := m % 10 + 1) rfl rfl (by omega) (by show m % 10 + 1 ≤ 10; omega)) ?_
   refine zA rfl (zA2 (v := .string _) rfl) ?_; refine zA rfl (zG6 (a := (⟨#[48, 49, 50, 51, 52, 53, 54, 55, 56, 57]⟩ : ByteArray).extract (m % 10) (m % 10 + 1)) (b := digR n i) rfl rfl (by rw [zEn, dig_at _ (by omega)]; show 1 + i ≤ _; omega)) ?_; refine zA rfl (zA0 (v := .string _) rfl) ?_; refine zA6 ?_; refine zA1 ?_; refine zA rfl (zA2 (v := .int .i64 _) rfl) ?_; refine zA rfl (run_quo64 rfl rfl (c := ((m / 10 : Nat) : Int)) (by omega) (by omega) (by omega) (inI (by omega) (by omega))) ?_; refine zA rfl (zA0 (v := .int .i64 _) rfl) ?_; refine zA6 ?_; refine zA1 ?_; refine zA rfl (zA2 (v := .int .i64 _) rfl) ?_; refine zA rfl (zAu rfl rfl rfl (inI (by omega) (by omega))) ?_
   refine zA rfl (zA0 (v := .int .i64 _) rfl) ?_; refine zA6 ?_; exact ⟨(i + 1, m / 10), by simp only; omega, ⟨by simp only; omega, by simp only; rw [hm, Nat.div_div_eq_div_mul, Nat.pow_succ], hs⟩, ⟨rfl, by rw [digR, ← hm, ← dig_at _ (by omega)]; rfl, rfl, trivial⟩, by repeat (first | exact Out.mix _ _ _ | refine Out.updo rfl ?_ | refine Out.upd rfl ?_ | refine Out.mixIn rfl ?_)⟩
  ·
   intro h10; have g10 := of_decide_eq_false h10; refine zBp rfl ?_; refine zA3 (zA1 ?_); refine zA rfl (zA2 (v := .string _) rfl) ?_; refine zA rfl (zA0 (v := .string _) rfl) ?_; refine zA6 ?_; refine zAc ?_; refine zBd (v := .string _) rfl rfl ?_
   have e : i = k := by omega
   subst e; exact ⟨_, rfl, rfl, hs⟩
theorem kindly_sl (hs : Mem g w L) (s : ByteArray) (h1 : 1 ≤ s.size ∧ s.size ≤ 8) (hall : ∀ b ∈ s.data.toList, 97 ≤ b.toNat ∧ b.toNat ≤ 122) : Calls Tryz.prog 80 #[.string s] w (Ret fun v w' => v = .bool true ∧ Mem g w' L) := by
  have hsz : s.data.toList.length = s.size := by simp
  refine zAf Tryz.func80 rfl rfl ?_
  skip
  refine zA3 (zA1 ?_); refine zA rfl (zA0 (v := .bool _) rfl) ?_; refine zA6 ?_; refine zA3 ?_; refine zA3 (zA1 ?_); refine zA rfl (zA2 (v := .string _) rfl) ?_; refine zA rfl (run_lenT uz9 rfl) ?_; refine zA rfl (zB9 rfl rfl) ?_; refine zA rfl (zA2 (v := .bool _) rfl) ?_; refine zAi rfl rfl (decide_eq_false (by omega)) ?_; refine zA rfl (zA2 (v := .string _) rfl) ?_; refine zAi rfl rfl (decide_eq_false (by omega)) ?_; refine zA rfl (run_lenT uz9 rfl) ?_; refine zAi rfl rfl (decide_eq_false (by omega)) ?_; refine zA rfl (zBl rfl rfl) ?_; refine zA rfl (zAg (v := .bool _) rfl (decide_eq_false (by omega)) rfl) ?_; refine zA6 ?_; refine zB4 rfl (decide_eq_false (by omega)) ?_; refine zAd ?_
  refine zA3 ?_; refine zA3 (zA1 ?_); refine zA rfl (zA0 (v := .int .i64 _) rfl) ?_; refine zA6 ?_; refine zAo ?_; refine zBr (X := Nat) [2, 3, 12, 13, 14, 15, 16, 17, 18, 19, 20, 21, 22, 23, 24, 25, 26, 27] (fun k => [(3, .int .i64 (k : Nat))]) (fun k w => k ≤ s.size ∧ Mem g w L) (fun k => s.size - k) (0) ?_ ?_ ?_
  · exact ⟨rfl, trivial⟩
  · exact ⟨Nat.zero_le _, hs⟩
  clear hs; rintro x ξ w hI; obtain ⟨hk, hs⟩ := hI; refine zA3 ?_; refine zA3 (zA1 ?_); refine zA rfl (zA2 (v := .int .i64 _) rfl) ?_; refine zA rfl (zA2 (v := .string _) rfl) ?_; refine zA rfl (run_lenT uz9 rfl) ?_; refine zA rfl (zB9 rfl rfl) ?_; refine zA6 ?_; refine zB rfl ?_ ?_
  ·
   intro h15; have g15 := of_decide_eq_true h15; obtain ⟨b, hb⟩ : ∃ b, s.data.toList[x]? = some b := ⟨_, List.getElem?_eq_getElem (by omega)⟩; have hbb := hall b (List.mem_of_getElem? hb); refine zAd ?_; refine zA3 ?_; refine zAo ?_; refine zA3 (zA1 ?_); refine zA rfl (zA2 (v := .string _) rfl) ?_; refine zA rfl (zA2 (v := .int .i64 _) rfl) ?_; refine zA rfl (run_indexs uz9 rfl rfl hb) ?_; refine zA rfl (zB9 rfl rfl) ?_; refine zA rfl (zA2 (v := .bool _) rfl) ?_; refine zAi rfl rfl (decide_eq_false (by omega)) ?_; refine zA rfl (zA2 (v := .string _) rfl) ?_; refine zAi rfl rfl (decide_eq_false (by omega)) ?_; refine zA rfl (zA2 (v := .int .i64 _) rfl) ?_
   refine zAi rfl rfl (decide_eq_false (by omega)) ?_; refine zA rfl (run_indexs uz9 rfl rfl hb) ?_; refine zAi rfl rfl (decide_eq_false (by omega)) ?_; refine zA rfl (zBl rfl rfl) ?_; refine zA rfl (zAg (v := .bool _) rfl (decide_eq_false (by omega)) rfl) ?_; refine zA6 ?_; refine zB4 rfl (decide_eq_false (by omega)) ?_; refine zAd ?_; refine zA1 ?_; refine zA rfl (zA2 (v := .int .i64 _) rfl) ?_; refine zA rfl (zAu rfl rfl rfl (inI (by omega) (by omega))) ?_; refine zA rfl (zA0 (v := .int .i64 _) rfl) ?_; refine zA6 ?_; exact ⟨x + 1, by omega, ⟨by omega, hs⟩, ⟨rfl, trivial⟩, by repeat (first | exact Out.mix _ _ _ | refine Out.updo rfl ?_ | refine Out.upd rfl ?_ | refine Out.mixIn rfl ?_)⟩
  ·
   intro h15; have g15 := of_decide_eq_false h15; refine zBp rfl ?_; refine zA3 (zA1 ?_); refine zA rfl (zA0 (v := .bool _) rfl) ?_; refine zA6 ?_; refine zAc ?_; refine zBd (v := .bool _) rfl rfl ?_; exact ⟨_, rfl, rfl, hs⟩
theorem objNm_sl (hs : Mem g w L) (id base : Nat) (s : ByteArray) (hid : id ≤ 2147483647) (hb : base ≤ 1099511627776) (h1 : 1 ≤ s.size ∧ s.size ≤ 8) (hall : ∀ b ∈ s.data.toList, 97 ≤ b.toNat ∧ b.toNat ≤ 122) : Calls Tryz.prog 43 #[.int .i64 id, .string s, .int .i64 base] w (Ret fun v w' => v = .string (zDr id s base) ∧ Mem g w' L) := by
  refine zAf Tryz.func43 rfl rfl ?_
  skip
  refine zA3 (zA1 ?_); refine zA rfl (zA0 (v := .string _) rfl) ?_; refine zA6 ?_; refine zA3 ?_; refine zA3 (zA1 ?_); refine zA rfl (zA2 (v := .int .i64 _) rfl) ?_; refine zA rfl (zB9 rfl rfl) ?_; refine zA rfl (zA2 (v := .bool _) rfl) ?_; refine zAi rfl rfl (decide_eq_false (by omega)) ?_; refine zA rfl (zA2 (v := .int .i64 _) rfl) ?_; refine zAi rfl rfl (decide_eq_false (by omega)) ?_; refine zA rfl (zBl rfl rfl) ?_; refine zA rfl (zAg (v := .bool _) rfl (decide_eq_false (by omega)) rfl) ?_; refine zA rfl (zA2 (v := .bool _) rfl) ?_; refine zAi rfl rfl (decide_eq_false (by omega)) ?_; refine zA rfl (zA2 (v := .string _) rfl) ?_; refine zAi rfl rfl (decide_eq_false (by omega)) ?_
  refine zAb rfl en80 (kindly_sl hs s h1 hall) ?_; clear hs; rintro _ w ⟨rfl, hs⟩; refine zAi rfl rfl (decide_eq_false (by omega)) ?_; refine zA rfl (zBt rfl) ?_; refine zA rfl (zAg (v := .bool _) rfl (decide_eq_false (by omega)) rfl) ?_; refine zA rfl (zA2 (v := .bool _) rfl) ?_; refine zAi rfl rfl (zBj (rfl)) ?_; refine zA rfl (zA2 (v := .int .i64 _) rfl) ?_; refine zAi rfl rfl (zBj (rfl)) ?_; refine zAb rfl en57 (rRight_sl hs base) ?_; clear hs; rintro _ w ⟨rfl, hs⟩; refine zAi rfl rfl (zBj (rfl)) ?_; refine zA rfl (zBt rfl) ?_; refine zA rfl (zAg (v := .bool _) rfl (zBj (rfl)) rfl) ?_; refine zA6 ?_; refine zB4 rfl (zBj ((by simp [zEc]; omega))) ?_; refine zAd ?_; refine zA3 (zA1 ?_)
  refine zA rfl (zA2 (v := .int .i64 _) rfl) ?_; refine zAb rfl en81 (digits_sl hs id 10 (by omega) (by decide)) ?_; clear hs; rintro _ w ⟨rfl, hs⟩; refine zA rfl (zG6 (a := bSeg) (b := digR id 10) rfl rfl (by rw [zEn]; decide)) ?_; refine zA rfl (zG6 (a := bSeg ++ digR id 10) (b := bDash) rfl rfl (by rw [ByteArray.size_append, zEn]; decide)) ?_; refine zA rfl (zA2 (v := .string _) rfl) ?_; refine zA rfl (zG6 (a := bSeg ++ digR id 10 ++ bDash) (b := s) rfl rfl (by rw [ByteArray.size_append, ByteArray.size_append, zEn]; show 4 + 10 + 1 + s.size ≤ _; omega)) ?_
  refine zA rfl (zG6 (a := bSeg ++ digR id 10 ++ bDash ++ s) (b := bDash) rfl rfl (by rw [ByteArray.size_append, ByteArray.size_append, ByteArray.size_append, zEn]; show 4 + 10 + 1 + s.size + 1 ≤ _; omega)) ?_; refine zA rfl (zA2 (v := .int .i64 _) rfl) ?_; refine zAb rfl en81 (digits_sl hs base 13 hb (by decide)) ?_; clear hs; rintro _ w ⟨rfl, hs⟩; refine zA rfl (zG6 (a := bSeg ++ digR id 10 ++ bDash ++ s ++ bDash) (b := digR base 13) rfl rfl (by rw [ByteArray.size_append, ByteArray.size_append, ByteArray.size_append, ByteArray.size_append, zEn, zEn]; show 4 + 10 + 1 + s.size + 1 + 13 ≤ _; omega)) ?_; refine zA rfl (zA0 (v := .string _) rfl) ?_; refine zA6 ?_; refine zAc ?_
  refine zBd (v := .string _) rfl rfl ?_; exact ⟨_, rfl, rfl, hs⟩
theorem zsPr : (Tryz.prog.info? 46).map (fun i => (i.zero, i.size)) = some (some (.agg #[.int .i64 0, .int .i64 0]), 2) := by kernel_rfl
theorem fill_pr (a b : Int) : Instr.fill (fun i => some (i * 2, 2)) ((Array.range (1 * 2)).map ((Value.agg #[.int .i64 0, .int .i64 0]).cells[· % (Value.agg #[.int .i64 0, .int .i64 0]).cells.size]!)) [(0, .agg (prL (a, b)).toArray)] = some (prL (a, b)).toArray := by kernel_rfl
theorem zsOb : (Tryz.prog.info? 66).map (fun i => (i.zero, i.size)) = some (some (.agg #[.string ByteArray.empty, .int .i64 0, .int .u32 0]), 3) := by kernel_rfl
theorem fill_ob (s t : ByteArray) (a c : Int) (b d : Nat) : Instr.fill (fun i => some (i * 3, 3)) ((Array.range (2 * 3)).map ((Value.agg #[.string ByteArray.empty, .int .i64 0, .int .u32 0]).cells[· % (Value.agg #[.string ByteArray.empty, .int .i64 0, .int .u32 0]).cells.size]!)) [(0, .agg (obL (s, a, b)).toArray), (1, .agg (obL (t, c, d)).toArray)] = some (obL (s, a, b) ++ obL (t, c, d)).toArray := by kernel_rfl
theorem copyPr_sl (hs : Mem g w L) {a : Option Addr} {n c : Nat} {l : List Pr} (hr : RdK g L 2 (.slice a n c) (l.map prL)) (hn : n = l.length) (hlen : 1 ≤ l.length ∧ l.length ≤ 1000000) : Calls Tryz.prog 42 #[.slice a n c] w (Ret fun v w' => ∃ s : SA, v = .slice s.1 l.length s.2 ∧ Mem g w' (zEy 2 (.slice s.1 l.length s.2) (l.map prL) :: L)) := by
  subst hn; refine zAf Tryz.func42 rfl rfl ?_
  skip
  refine zA3 (zA1 ?_); refine zA rfl (zA0 (v := .slice _ _ _) rfl) ?_; refine zA6 (zA3 (zA1 ?_)); refine zA rfl (zA2 (v := .slice _ _ _) rfl) ?_; refine zA rfl (zAt zDq rfl) ?_; refine lw_makeRows hs rfl zDq in46 rfl rfl rfl (by omega) (by omega) ?_; clear hs; intro b7 w hs; refine zA rfl (zA0 (v := .slice _ _ _) rfl) ?_; refine zA6 ?_; refine zA3 ?_; refine zA3 (zA1 ?_); refine zA rfl (zA0 (v := .int .i64 _) rfl) ?_; refine zA6 ?_; refine zAo ?_
  refine zBr (X := Nat × SA) [3, 4, 8, 9, 10, 11, 12, 13, 14, 15, 16, 17, 18, 19, 20] (fun q => [(3, .slice q.2.1 q.1 q.2.2), (4, .int .i64 (q.1 : Nat))]) (fun q w => q.1 ≤ l.length ∧ Mem g w (zEy 2 (.slice q.2.1 q.1 q.2.2) ((l.take q.1).map prL) :: L)) (fun q => l.length - q.1) ((0, (some ⟨b7, 0, none⟩, l.length))) ?_ ?_ ?_
  · exact ⟨rfl, rfl, trivial⟩
  · exact ⟨Nat.zero_le _, hs⟩
  clear hs; rintro x ξ w hI; obtain ⟨k, s⟩ := x; obtain ⟨hk, hs⟩ := hI; simp only at hk hs
  show cw _ _ _ _ _ _ (updL (mix _ ξ _) [(3, .slice s.1 k s.2), (4, .int .i64 (k : Nat))]) w
  refine zA3 ?_; refine zA3 (zA1 ?_); refine zA rfl (zA2 (v := .int .i64 _) rfl) ?_; refine zA rfl (zA2 (v := .slice _ _ _) rfl) ?_; refine zA rfl (zAt zDq rfl) ?_; refine zA rfl (zB9 rfl rfl) ?_; refine zA6 ?_; refine zB rfl ?_ ?_
  ·
   intro h11; have g11 := of_decide_eq_true h11; obtain ⟨y, hy⟩ : ∃ y, l[k]? = some y := ⟨_, List.getElem?_eq_getElem (by omega)⟩; obtain ⟨b9, o9, rfl⟩ := hr.cons.at hs (by rw [zEj]; omega); refine zAd ?_; refine zA3 ?_; refine zAo ?_; refine zA1 ?_; refine zA rfl (zA2 (v := .slice _ _ _) rfl) ?_; refine zA rfl (zA2 (v := .slice _ _ _) rfl) ?_; refine zA rfl (zA2 (v := .int .i64 _) rfl) ?_; refine zA rfl (zAs zDq sz46 rfl rfl rfl (by omega) rfl) ?_; refine zA rfl (zCo (cs := prL y) uz46 sz46 rfl (fun j v hj => hr.cons.cell hs (zE5 hy) hj)) ?_; refine zDb hs rfl (row := prL y) zDq zsPr rfl (fill_pr y.1 y.2) (by decide) (by decide) ?_; clear hs; intro b19 w hs
   refine zCm hs rfl 1 0 rfl rfl zDq zDq in46 rfl rfl (by rfl) rfl rfl (by simp only [List.length_map, List.length_take]; omega) (by simp only [List.length_map, List.length_take]; omega) ?_; clear hs; intro a20 c20 w hs; simp only [zzs, zzz] at hs; refine zA rfl (zA0 (v := .slice _ _ _) rfl) ?_; refine zA6 ?_; refine zA1 ?_; refine zA rfl (zA2 (v := .int .i64 _) rfl) ?_; refine zA rfl (zAu rfl rfl rfl (inI (by omega) (by omega))) ?_; refine zA rfl (zA0 (v := .int .i64 _) rfl) ?_; refine zA6 ?_
   have hl : ((l.take k).map prL).length = k := by rw [List.length_map, List.length_take]; omega
   exact ⟨(k + 1, (a20, c20)), by simp only; omega, ⟨by simp only; omega, by simp only [List.take_add_one, hy, Option.toList, List.map_append, List.map_cons, List.map_nil]; have h3 := hs.tail; rw [hl] at h3; exact h3⟩, ⟨by rw [hl]; rfl, rfl, trivial⟩, by repeat (first | exact Out.mix _ _ _ | refine Out.updo rfl ?_ | refine Out.upd rfl ?_ | refine Out.mixIn rfl ?_)⟩
  ·
   intro h11; have g11 := of_decide_eq_false h11; refine zBp rfl ?_; refine zA3 (zA1 ?_); refine zA rfl (zA2 (v := .slice _ _ _) rfl) ?_; refine zA rfl (zA0 (v := .slice _ _ _) rfl) ?_; refine zA6 ?_; refine zAc ?_; refine zBd (v := .slice _ _ _) rfl rfl ?_
   have e : k = l.length := by omega
   subst e; rw [List.take_length] at hs; exact ⟨_, rfl, s, rfl, hs⟩
end
section
open Go.RowKit
attribute [local irreducible] zAh
variable {g w : World} {L M : List HP} {ad : Nat → Addr} {p : Nat}
def mkM (id base : Nat) (fin : Int) (l : List Pr) : Mf := ⟨id, base, fin, 0, l, [(zDr id bData base, 0, 0), (zDr id zFa base, 0, 0)]⟩
end
section
open Go.RowKit
attribute [local irreducible] zAh
variable {g w : World} {L M : List HP} {ad : Nat → Addr} {p : Nat} {V : Vw}
section
variable {P : Program} {ρ : Env} {dst : Option Tmp} {ty : TypeId} {pos : String} {aft : Array Edge} {x : Operand}
theorem run_lenM {κ : Type} {enc : κ → Value} {m : Nat} {es : List (κ × Value)} {t kt et : TypeId} (hm : zEe w enc m es) (ht : P.underlying t = some (.map kt et)) (hx : ev ρ x = .map (some m)) : (execOp (ev ρ) ⟨dst, .call { callee := .builtin .len, args := #[x], argTypes := #[t] }, ty, pos, aft, none⟩).run P w = .ok (.value (.int .i64 es.length)) w := by
  obtain ⟨arr, clock, hb, he, _⟩ := hm
  have hl : arr.size = es.length := by have := congrArg List.length he; simpa using this
  simp [execOp, resolve, invoke, builtin, Builtin.len_, run_underlying ht, hx, goInt, MapKept.run_getObj_map hb, hl]
theorem run_field1 {fs : Array Field} {f : Field} {t : TypeId} {i : Nat} {cs : Array Value} {v : Value} (ht : P.underlying t = some (.struct fs)) (hf : fs[i]? = some f) (ha : ∀ w, (isAgg f.type).run P w = .ok false w) (hx : ev ρ x = .agg cs) (hv : cs[f.offset]? = some v) : (execOp (ev ρ) ⟨dst, .field t x i, ty, pos, aft, none⟩).run P w = .ok (.value v) w := by
  have hp : (part f.type cs f.offset).run P w = .ok v w := by simp [part, ha, hv]
  simp [execOp, Instr.field, run_underlying ht, hx, hf, asAgg, hp]
end
theorem itm_inj {i : Itm} {e o e' o' : SA} (h : itmV i e o = itmV i e' o') : e = e' ∧ o = o' := by
  simp only [itmV, mfL, Value.agg.injEq, Array.mk.injEq, List.cons.injEq, Value.slice.injEq, true_and, and_true] at h
  obtain ⟨a, b⟩ := e; obtain ⟨c, d⟩ := o; obtain ⟨a', b'⟩ := e'; obtain ⟨c', d'⟩ := o'
  simp only at h; obtain ⟨⟨rfl, rfl⟩, rfl, rfl⟩ := h; exact ⟨rfl, rfl⟩
theorem Mem.itmAt {es : List (Int × Value)} (hs : Mem g w L) (k : Nat) (hk : L[k]? = some (famC itmC es V)) {id : Int} {i : Itm} (hV : zAw V id = some i) : ∃ e o, zAw es id = some (itmV i e o) ∧ MfR g L i.m e o := by
  obtain ⟨v, hv⟩ := fam_some (hs.famKeys k hk) hV; have h1 := hs.famTake k hk hv hV; obtain ⟨e, o, rfl, _⟩ := h1.openItm; refine ⟨e, o, hv, ⟨Ens.fam k hk hv hV fun F w h => ?_, Ens.fam k hk hv hV fun F w h => ?_⟩⟩
  · obtain ⟨⟨e', o'⟩, h2, h3⟩ := h
    obtain ⟨rfl, rfl⟩ := itm_inj h3; obtain ⟨F1, F2, h4, _⟩ := h2; exact h4.1.rows
  · obtain ⟨⟨e', o'⟩, h2, h3⟩ := h
    obtain ⟨rfl, rfl⟩ := itm_inj h3; obtain ⟨F1, F2, _, h5, _⟩ := h2; obtain ⟨F3, F4, h6, _⟩ := h5; exact h6.1.rows
theorem mf_len {x : Mf} (h : (mfF x).1 = 0) : x.eps.length ≤ 256 ∧ x.obs.length ≤ 8 := by
  unfold mfF at h
  split at h
  · cases h
  · split at h
    · rename_i h1; exact absurd h h1
    · rename_i h1
      split at h
      · cases h
      · refine ⟨epF_len (by simpa using h1), ?_⟩
        unfold obF at h
        split at h
        · cases h
        · omega
theorem Vw.ok.item (h : V.ok) {id : Int} {i : Itm} (hi : zAw V id = some i) : (mfF i.m).1 = 0 ∧ i.m.id = id ∧ 1 ≤ i.st ∧ i.st ≤ 4 ∧ i.m.obs.length ≤ 8 ∧ i.m.eps.length ≤ 256 := by
  have h1 := h.fine _ (zCq hi); have h2 := mf_len h1.1; exact ⟨h1.1, h1.2.1, h1.2.2.1, h1.2.2.2, h2.2, h2.1⟩
theorem newv_sl (hs : Mem g w L) : Calls Tryz.prog 74 #[] w (Ret fun v w' => ∃ p, v = .pointer (some ⟨p, 0, none⟩) ∧ Mem g w' (ViewC p [] :: L)) := by
  refine zAf Tryz.func74 rfl rfl ?_
  skip
  refine zA3 (zA1 ?_); refine zA rfl (zA0 (v := .pointer none) rfl) ?_; refine zA6 (zA3 (zA1 ?_)); refine zF5 (Value.int .i64) hs rfl ?_; clear hs; intro m1 w hs
  try simp only [zzs, zzz] at hs
  refine zA rfl (zC0 ([.map (some m1)]) uz131 ze131 pl131 rfl (by simp [Value.cells]) rfl rfl) ?_; refine zBh (v := .agg _) hs rfl rfl ?_; clear hs; intro b3 w hs
  try simp only [zzs, zzz] at hs
  refine zA rfl (zA0 (v := .pointer (some _)) rfl) ?_; refine zA6 ?_; refine zAc ?_; refine zBd (v := .pointer (some _)) rfl rfl ?_; exact ⟨_, rfl, b3, rfl, Mem.closeV (es := []) Vw.ok_nil ((hs.addE (famC_nil (R := itmC) (κ := Int) _)).arr [1, 2, 0] 3 (by decide))⟩
theorem state_sl (hs : Mem g w (ViewC p V :: L)) (id : Int) : Calls Tryz.prog 20 #[.pointer (some ⟨p, 0, none⟩), .int .i64 id] w (Ret fun v w' => v = .int .i64 (V.state id) ∧ Mem g w' (ViewC p V :: L)) := by
  obtain ⟨ho, m, es, hs⟩ := hs.openV; simp only [viewP, List.cons_append, List.nil_append] at hs
  cases hV : zAw V id with
  | none =>
    have hes := fam_none (hs.famKeys 2 rfl) hV; refine zAf Tryz.func20 rfl rfl ?_
    skip
    refine zA3 (zA1 ?_); refine zA rfl (zA0 (v := .int .i64 _) rfl) ?_; refine zA6 (zA3 (zA1 ?_)); refine zA rfl (zA2 (v := .pointer (some _)) rfl) ?_; refine zA rfl (zA8 rfl) ?_; refine zA rfl (zA4 (o' := 0) uz131 rfl sz129 rfl rfl rfl) ?_; refine zA rfl (zA7 uz129 rfl rfl (hs.cellAt 0 rfl rfl)) ?_; refine zA rfl (zA2 (v := .int .i64 _) rfl) ?_; refine zA rfl (zDg (hs.mapAt 1 rfl) zDp uz129 uz3 ze128 rfl rfl (o := none) hes) ?_; refine zA rfl (run_field1 (v := .int .i64 0) uz128 rfl Tryz.isAgg3 rfl rfl) ?_; refine zA rfl (zA0 (v := .int .i64 _) rfl) ?_; refine zA6 ?_; refine zAc ?_; refine zBd (v := .int .i64 _) rfl rfl ?_; exact ⟨_, rfl, by simp [Vw.state, hV], Mem.closeV ho hs⟩
  | some i =>
    obtain ⟨e, o, hes, _⟩ := hs.itmAt 2 rfl hV; refine zAf Tryz.func20 rfl rfl ?_
    skip
    refine zA3 (zA1 ?_); refine zA rfl (zA0 (v := .int .i64 _) rfl) ?_; refine zA6 (zA3 (zA1 ?_)); refine zA rfl (zA2 (v := .pointer (some _)) rfl) ?_; refine zA rfl (zA8 rfl) ?_; refine zA rfl (zA4 (o' := 0) uz131 rfl sz129 rfl rfl rfl) ?_; refine zA rfl (zA7 uz129 rfl rfl (hs.cellAt 0 rfl rfl)) ?_; refine zA rfl (zA2 (v := .int .i64 _) rfl) ?_; refine zA rfl (zDg (hs.mapAt 1 rfl) zDp uz129 uz3 ze128 rfl rfl (o := some (itmV i e o)) hes) ?_; refine zA rfl (run_field1 (v := .int .i64 i.st) uz128 rfl Tryz.isAgg3 rfl rfl) ?_; refine zA rfl (zA0 (v := .int .i64 _) rfl) ?_; refine zA6 ?_; refine zAc ?_; refine zBd (v := .int .i64 _) rfl rfl ?_
    exact ⟨_, rfl, by simp [Vw.state, hV], Mem.closeV ho hs⟩
structure RfI (V : Vw) (es left : List (Int × Value)) (n : ByteArray) : Prop where
  nd : (zAl left).Nodup
  sub : ∀ k v, zAw left k = some v → zAw es k = some v
  seen : ∀ k i, zAw V k = some i → zAw left k = none → refersB i n = false
theorem RfI.step {es left : List (Int × Value)} {n : ByteArray} (h : RfI V es left n) {k : Int} {i : Itm} (hV : zAw V k = some i) (hr : refersB i n = false) : RfI V es (zDa left k) n := by
  refine ⟨nodup_del h.nd k, fun j v hj => ?_, fun j u hu hj => ?_⟩
  · by_cases e : j = k
    · subst e; rw [zCl h.nd] at hj; cases hj
    · rw [zCc _ e] at hj; exact h.sub j v hj
  · by_cases e : j = k
    · subst e; rw [hV] at hu; cases hu; exact hr
    · rw [zCc _ e] at hj; exact h.seen j u hu hj
end
section
open Go.RowKit
variable {g w : World} {L M : List HP} {ad : Nat → Addr} {p : Nat}
theorem fill_km (k a b c d : Int) (e o : SA) (n m : Nat) : Instr.fill ((#[(0, 1), (1, 6)] : Array (Nat × Nat))[·]?) #[.int .i64 0, .int .i64 0, .int .i64 0, .int .i64 0, .int .i64 0, .slice none 0 0, .slice none 0 0] [(0, .int .i64 k), (1, .agg #[.int .i64 a, .int .i64 b, .int .i64 c, .int .i64 d, .slice e.1 n e.2, .slice o.1 m o.2])] = some #[.int .i64 k, .int .i64 a, .int .i64 b, .int .i64 c, .int .i64 d, .slice e.1 n e.2, .slice o.1 m o.2] := by
  kernel_rfl
variable {ρ : Env} {dst : Option Tmp} {ty : TypeId} {pos : String} {aft : Array Edge} {x y : Operand}
theorem zFe {P : Program} {t : TypeId} {fs : Array Field} {k : Int} {m : Mf} {e o : SA} (ht : P.underlying t = some (.struct fs)) (hz : (P.info? t).map (·.zero) = some (some (.agg #[.int .i64 0, .int .i64 0, .int .i64 0, .int .i64 0, .int .i64 0, .slice none 0 0, .slice none 0 0])))
    (hp : ∀ w, (fs.mapM (m := Sem) fun f => do pure (f.offset, ← sizeOf f.type)).run P w = .ok #[(0, 1), (1, 6)] w) (hx : ev ρ x = .int .i64 k) (hy : ev ρ y = .agg (mfL m e o).toArray) :
    (execOp (ev ρ) ⟨dst, .build t #[(0, x), (1, y)], ty, pos, aft, none⟩).run P w = .ok (.value (.agg (.int .i64 k :: mfL m e o).toArray)) w := by
  refine zBs (ps := [(0, x), (1, y)]) ht hz hp ?_; simp only [List.map_cons, List.map_nil, hx, hy]; exact fill_km k m.id m.base m.fin m.time e o _ _
end
section
open Go.RowKit
attribute [local irreducible] zAh
variable {g w : World} {L M : List HP} {ad : Nat → Addr} {p : Nat} {V : Vw}
def ApR (g : World) (ad : Nat → Addr) (L : List HP) (p : Nat) (r : Flt × Vw) (v : Value) (w' : World) : Prop := ∃ eb, v = flV ad r.1 eb ∧ Mem g w' (flC ad r.1 eb :: ViewC p r.2 :: L)
theorem ApR.bare {c : Nat} (hs : Mem g w (ViewC p V :: L)) : ApR g ad L p ((c, none), V) (zAh ad c) w := ⟨0, rfl, hs.addE (emp_okF w)⟩
theorem Vw.apply_bad {k : Int} {x : Mf} (h : (mfF x).1 ≠ 0) : V.apply k x = (mfF x, V) := by rw [Vw.apply, if_pos h]
theorem Vw.apply_kind {k : Int} {x : Mf} (h : (mfF x).1 = 0) (h2 : k < 1 ∨ 4 < k) : V.apply k x = ((112, none), V) := by rw [Vw.apply, if_neg (by simpa using h), if_pos h2]
theorem Vw.apply_state {k : Int} {x : Mf} (h : (mfF x).1 = 0) (h2 : ¬ (k < 1 ∨ 4 < k)) (h3 : nextB (V.state x.id) k = false) : V.apply k x = ((113, none), V) := by rw [Vw.apply, if_neg (by simpa using h), if_neg h2, if_pos h3]
theorem Vw.apply_new {k : Int} {x : Mf} (h : (mfF x).1 = 0) (h2 : ¬ (k < 1 ∨ 4 < k)) (h3 : nextB (V.state x.id) k = true) (hV : zAw V x.id = none) : V.apply k x = if 4096 ≤ V.length then ((104, none), V) else ((0, none), zBv V x.id ⟨k, x⟩) := by rw [Vw.apply, if_neg (by simpa using h), if_neg h2, if_neg (by rw [h3]; decide), hV]
theorem Vw.apply_old {k : Int} {x : Mf} {i : Itm} (h : (mfF x).1 = 0) (h2 : ¬ (k < 1 ∨ 4 < k)) (h3 : nextB (V.state x.id) k = true) (hV : zAw V x.id = some i) : V.apply k x = if i.m = x then ((0, none), zBv V x.id ⟨k, x⟩) else ((103, none), V) := by rw [Vw.apply, if_neg (by simpa using h), if_neg h2, if_neg (by rw [h3]; decide), hV]
theorem flt0 {f : Flt} (hf : FltOk f) (h : f.1 = 0) : f = (0, none) := by
  rcases hf.1 with h1 | h1
  · exact h1
  · rw [h] at h1; simp at h1
set_option maxHeartbeats 1000000 in
theorem apply_sl (hE : ErrV ad g) (hs : Mem g w (ViewC p V :: L)) (k : Int) {x : Mf} {e o : SA} (hm : MfR g L x e o) (hob : x.obs.length ≤ 1000000) : Calls Tryz.prog 93 #[.pointer (some ⟨p, 0, none⟩), .agg (.int .i64 k :: mfL x e o).toArray] w (Ret (ApR g ad L p (V.apply k x))) := by
  obtain ⟨ho, m, es, hs⟩ := hs.openV; simp only [viewP, List.cons_append, List.nil_append] at hs; have hke := hs.famKeys 2 rfl
  cases hV : zAw V x.id with
  | none =>
    have hes := fam_none hke hV
    have hst : V.state x.id = 0 := by simp [Vw.state, hV]
    refine zAf Tryz.func93 rfl rfl ?_
    skip
    refine zA3 (zA1 ?_); refine zBh (v := .agg _) hs rfl rfl ?_; clear hs; intro b3 w hs
    try simp only [zzs, zzz] at hs
    refine zA rfl (zA0 (v := .nilIface) rfl) ?_; refine zA6 ?_; refine zA3 ?_; refine zA3 (zA1 ?_); refine zA rfl (zA4 (o' := 1) zF0 rfl zF2 rfl rfl rfl) ?_; refine zA rfl (zBy hs 0 (mfL x e o) rfl zCb zF2 rfl rfl) ?_; refine zAb rfl en45 (validM_sl hE hs hm.cons.cons.cons.cons hob) ?_; clear hs; rintro _ w ⟨eb, rfl, hs⟩; refine zA rfl (zA0 (v := flV ad _ _) rfl) ?_; refine zA6 (zA3 (zA1 ?_)); refine zA rfl (zA2 (v := flV ad _ _) rfl) ?_; refine zA rfl (run_neF (mfF_ok x).place rfl) ?_; refine zA6 ?_; refine zB rfl ?_ ?_
    ·
     intro h12; have g12 := zEt h12; refine zA3 (zA1 ?_); refine zA rfl (zA2 (v := flV ad _ _) rfl) ?_; refine zA rfl (zA0 (v := flV ad _ _) rfl) ?_; refine zA6 ?_; refine zAc ?_; refine zBd (v := flV ad _ _) rfl rfl ?_
     have h0 : (mfF x).1 ≠ 0 := by simpa using h12
     rw [Vw.apply_bad h0]; exact ⟨_, rfl, eb, rfl, Mem.closeV1 ho (hs.arr [0, 2, 3, 4] 5 (by decide))⟩
    ·
     intro h12; have g12 := zEs h12
     have h0 : (mfF x).1 = 0 := by simpa using h12
     replace hs := hs.tail; refine zAd ?_; refine zA3 ?_; refine zA3 (zA1 ?_); refine zA rfl (zA4 (o' := 0) zF0 rfl sz3 rfl rfl rfl) ?_; refine zA rfl (zA7 uz3 rfl rfl (hs.cellAt 0 rfl rfl)) ?_; refine zA rfl (zB9 rfl rfl) ?_; refine zA rfl (zA2 (v := .bool _) rfl) ?_; refine zB0 (t := _) (d := 17) rfl ?_ ?_
     ·
      intro h16; have g16 := of_decide_eq_true h16; refine zA9 rfl rfl rfl h16 ?_; refine zA9 rfl rfl rfl h16 ?_; refine zA9 rfl rfl rfl h16 ?_; refine zA rfl (zAk (v := .bool _) rfl h16 rfl) ?_; refine zA6 ?_; refine zB6 rfl rfl ?_; refine zA3 (zA1 ?_); refine zA rfl (zA7 zCe rfl rfl (hE.cellW hs 112 (by decide) rfl)) ?_; refine zA rfl (zA0 (v := zAh ad _) rfl) ?_; refine zA6 ?_; refine zAc ?_; refine zBd (v := zAh ad _) rfl rfl ?_; rw [Vw.apply_kind h0 (by omega)]; exact ⟨_, rfl, ApR.bare (Mem.closeV ho hs.tail)⟩
     ·
      intro h16; have g16 := of_decide_eq_false h16; refine zAi rfl rfl h16 ?_; refine zA rfl (zA4 (o' := 0) zF0 rfl sz3 rfl rfl rfl) ?_; refine zAi rfl rfl h16 ?_; refine zA rfl (zA7 uz3 rfl rfl (hs.cellAt 0 rfl rfl)) ?_; refine zAi rfl rfl h16 ?_; refine zA rfl (zBl rfl rfl) ?_; refine zA rfl (zAg (v := .bool _) rfl h16 rfl) ?_; refine zA6 ?_; refine zB rfl ?_ ?_
      ·
       intro h20; have g20 := of_decide_eq_true h20; refine zA3 (zA1 ?_); refine zA rfl (zA7 zCe rfl rfl (hE.cellW hs 112 (by decide) rfl)) ?_; refine zA rfl (zA0 (v := zAh ad _) rfl) ?_; refine zA6 ?_; refine zAc ?_; refine zBd (v := zAh ad _) rfl rfl ?_; rw [Vw.apply_kind h0 (by omega)]; exact ⟨_, rfl, ApR.bare (Mem.closeV ho hs.tail)⟩
      ·
       intro h20; have g20 := of_decide_eq_false h20; refine zAd ?_; refine zA3 ?_; refine zAp zBk hs ?_; intro w tr hK; replace hs := tr _ hs; clear tr; refine zA5 0 rfl rfl (fun w hs => zA2 (v := .pointer (some _)) rfl) hK ?_; refine zA5 1 rfl rfl (fun w hs => zA8 rfl) hK ?_; refine zA5 2 rfl rfl (fun w hs => zA4 (o' := 0) uz131 rfl sz129 rfl rfl rfl) hK ?_; refine zA5 3 rfl rfl (fun w hs => zA7 uz129 rfl rfl (hs.cellAt 1 rfl rfl)) hK ?_; refine zA5 4 rfl rfl (fun w hs => zA4 (o' := 1) zF0 rfl zF2 rfl rfl rfl) hK ?_; refine zA5 5 rfl rfl (fun w hs => zA4 zCb rfl sz3 rfl rfl rfl) hK ?_; refine zA5 6 rfl rfl (fun w hs => zA7 uz3 rfl rfl (hs.cellAt 0 rfl rfl)) hK ?_
       refine zA5 7 rfl rfl (fun w hs => zDo (hs.mapAt 2 rfl) zDp uz129 uz3 ze128 rfl rfl (o := none) hes) hK ?_; refine zA5 8 rfl rfl (fun w hs => zA2 (v := .tuple _) rfl) hK ?_; refine zA5 9 rfl rfl (fun w hs => zAa (v := .agg _) rfl rfl) hK ?_; refine zA5 10 rfl rfl (fun w hs => zAa (v := .bool _) rfl rfl) hK ?_; refine zAe [11] ?_; refine ⟨⟨_, rfl, ?_⟩, trivial⟩; refine zBn hs rfl ze128 ?_; clear hs; intro b6 w hs
       try simp only [zzs, zzz] at hs
       clear hK; have hK := hs.tail; refine zA6 ⟨hK, ?_⟩; refine zAe [12] ?_; refine ⟨⟨_, rfl, ?_⟩, trivial⟩; refine zAn hs 0 rfl rfl rfl sz128 rfl rfl ?_; clear hs; intro w hs
       try simp only [zzs, zzz] at hs
       clear hK; have hK := hs.tail; refine zA6 ⟨hK, ?_⟩; refine zA5 13 rfl rfl (fun w hs => zA0 (v := .bool _) rfl) hK ?_; refine zAr (by kernel_rfl) ?_; clear hK; refine zA3 ?_; refine zAo ?_; refine zA3 (zA1 ?_); refine zA rfl (zA4 (o' := 0) uz128 rfl sz3 rfl rfl rfl) ?_; refine zA rfl (zA7 uz3 rfl rfl (hs.cellAt 0 rfl rfl)) ?_; refine zA rfl (zA4 (o' := 0) zF0 rfl sz3 rfl rfl rfl) ?_; refine zA rfl (zA7 uz3 rfl rfl (hs.cellAt 1 rfl rfl)) ?_; refine zAb rfl en133 (nextE_sl hs 0 k) ?_; clear hs; rintro _ w ⟨rfl, hs⟩; refine zA rfl (zBt rfl) ?_; refine zA rfl (zA0 (v := .bool _) rfl) ?_; refine zA6 ?_; refine zB rfl ?_ ?_
       ·
        intro h39; replace h39 := zEu h39; refine zA3 (zA1 ?_); refine zA rfl (zA7 zCe rfl rfl (hE.cellW hs 113 (by decide) rfl)) ?_; refine zA rfl (zA0 (v := zAh ad _) rfl) ?_; refine zA6 ?_; refine zAc ?_; refine zBd (v := zAh ad _) rfl rfl ?_; rw [Vw.apply_state h0 (by omega) (by rw [hst]; exact h39)]; exact ⟨_, rfl, ApR.bare (Mem.closeV ho hs.tail.tail)⟩
       ·
        intro h39; replace h39 := zE0 h39; refine zA3 (zA1 ?_); refine zA rfl (zA2 (v := .bool _) rfl) ?_; refine zA rfl (zBt rfl) ?_; refine zA rfl (zA2 (v := .bool _) rfl) ?_; refine zAi rfl rfl (zCd (rfl)) ?_; refine zA rfl (zA2 (v := .pointer (some _)) rfl) ?_; refine zAi rfl rfl (zCd (rfl)) ?_; refine zA rfl (zA8 rfl) ?_; refine zAi rfl rfl (zCd (rfl)) ?_; refine zA rfl (zA4 (o' := 0) uz131 rfl sz129 rfl rfl rfl) ?_; refine zAi rfl rfl (zCd (rfl)) ?_; refine zA rfl (zA7 uz129 rfl rfl (hs.cellAt 2 rfl rfl)) ?_; refine zAi rfl rfl (zCd (rfl)) ?_; refine zA rfl (run_lenM (hs.mapAt 3 rfl) uz129 rfl) ?_; refine zAi rfl rfl (zCd (rfl)) ?_; refine zA rfl (zCw rfl rfl) ?_
        refine zA rfl (zAk (v := .bool _) rfl (zCd (rfl)) rfl) ?_; refine zA rfl (zA0 (v := .bool _) rfl) ?_; refine zA6 ?_; refine zB rfl ?_ ?_
        ·
         intro h51; have g51 := of_decide_eq_true h51; refine zA3 (zA1 ?_); refine zA rfl (zA7 zCe rfl rfl (hE.cellW hs 104 (by decide) rfl)) ?_; refine zA rfl (zA0 (v := zAh ad _) rfl) ?_; refine zA6 ?_; refine zAc ?_; refine zBd (v := zAh ad _) rfl rfl ?_; have hl := keys_len hke; rw [Vw.apply_new h0 (by omega) (by rw [hst]; exact h39) hV, if_pos (by omega)]; exact ⟨_, rfl, ApR.bare (Mem.closeV ho hs.tail.tail)⟩
        ·
         intro h51; have g51 := of_decide_eq_false h51; refine zA3 (zA1 ?_); refine zA rfl (zA2 (v := .bool _) rfl) ?_; refine zA rfl (zA2 (v := .bool _) rfl) ?_; refine zA9 rfl rfl rfl (rfl) ?_; refine zA9 rfl rfl rfl (rfl) ?_; refine zA9 rfl rfl rfl (rfl) ?_; refine zA9 rfl rfl rfl (rfl) ?_; refine zA9 rfl rfl rfl (rfl) ?_; refine zA9 rfl rfl rfl (rfl) ?_; refine zA rfl (zAg (v := .bool _) rfl (rfl) rfl) ?_; refine zA rfl (zA0 (v := .bool _) rfl) ?_; refine zA6 ?_; refine zB4 rfl rfl ?_; refine zAd ?_; refine zA3 ?_; refine zAp zBk (hs.drop 3) ?_; intro w tr hK; replace hs := tr _ hs; clear tr; refine zA5 0 rfl rfl (fun w hs => zA2 (v := .pointer (some _)) rfl) hK ?_
         refine zA5 1 rfl rfl (fun w hs => zA8 rfl) hK ?_; refine zA5 2 rfl rfl (fun w hs => zA4 (o' := 0) uz131 rfl sz129 rfl rfl rfl) hK ?_; refine zA5 3 rfl rfl (fun w hs => zA7 uz129 rfl rfl (hs.cellAt 2 rfl rfl)) hK ?_; refine zA5 4 rfl rfl (fun w hs => zA4 (o' := 1) zF0 rfl zF2 rfl rfl rfl) hK ?_; refine zA5 5 rfl rfl (fun w hs => zA4 zCb rfl sz3 rfl rfl rfl) hK ?_; refine zA5 6 rfl rfl (fun w hs => zA7 uz3 rfl rfl (hs.cellAt 1 rfl rfl)) hK ?_; refine zA5 7 rfl rfl (fun w hs => zA4 (o' := 0) zF0 rfl sz3 rfl rfl rfl) hK ?_; refine zA5 8 rfl rfl (fun w hs => zA7 uz3 rfl rfl (hs.cellAt 1 rfl rfl)) hK ?_
         refine zA5 9 rfl rfl (fun w hs => zA4 (o' := 1) zF0 rfl zF2 rfl rfl rfl) hK ?_; refine zA5 10 rfl rfl (fun w hs => zBy hs 1 (mfL x e o) rfl zCb zF2 rfl rfl) hK ?_; refine zAe [11] ?_; refine ⟨⟨_, rfl, ?_⟩, trivial⟩; refine zAb rfl en46 (cloneM_sl hs hm.cons.cons.cons.cons.cons (by have := mf_len h0; omega) (by have := mf_len h0; omega)) ?_; clear hs; rintro _ w ⟨s1, s2, rfl, hs⟩; clear hK; have hK := hs.tail.tail.drop 3; refine zA6 ⟨hK, ?_⟩; refine @zF7 _ _ _ _ _ _ _ _ _ _ _ _ _ _ 12 _ rfl (by kernel_rfl) (by kernel_rfl) (by kernel_rfl) rfl (fun w hs => zFe (k := k) (m := x) (e := s1) (o := s2) uz128 ze128 pl128 rfl rfl) hK ?_; refine zAe [13] ?_
         refine ⟨⟨_, rfl, ?_⟩, trivial⟩; refine zD4 (v := .agg _) hs 5 rfl zDp uz129 uz3 rfl rfl rfl ?_; clear hs; intro w hs
         try simp only [zzs, zzz] at hs
         clear hK; have hK := hs.tail.tail.drop 3; refine zA6 ⟨hK, ?_⟩; refine zAr (by kernel_rfl) ?_; clear hK; refine zA3 (zA1 ?_); refine zA rfl (zA0 (v := .nilIface) rfl) ?_; refine zA6 ?_; refine zAc ?_; refine zBd (v := .nilIface) rfl rfl ?_; rw [Vw.apply_new h0 (by omega) (by rw [hst]; exact h39) hV, if_neg (by have := keys_len hke; omega)]; have h1 := Mem.closeItm (i := ⟨k, x⟩) (hs.arr [0, 1, 4, 5, 6] 7 (by decide)); have h2 := Mem.famPut (R := itmC) (k := x.id) h1 2 rfl (fun _ h => False.elim h); have hok := Vw.apply_ok ho k x; rw [Vw.apply_new h0 (by omega) (by rw [hst]; exact h39) hV, if_neg (by have := keys_len hke; omega)] at hok
         exact ⟨_, rfl, by rw [← zAz ad]; exact ApR.bare (Mem.closeV hok h2)⟩
  | some i =>
    obtain ⟨ei, oi, hes, hmi⟩ := hs.itmAt 2 rfl hV; have hit := ho.item hV
    have hst : V.state x.id = i.st := by simp [Vw.state, hV]
    refine zAf Tryz.func93 rfl rfl ?_
    skip
    refine zA3 (zA1 ?_); refine zBh (v := .agg _) hs rfl rfl ?_; clear hs; intro b3 w hs
    try simp only [zzs, zzz] at hs
    refine zA rfl (zA0 (v := .nilIface) rfl) ?_; refine zA6 ?_; refine zA3 ?_; refine zA3 (zA1 ?_); refine zA rfl (zA4 (o' := 1) zF0 rfl zF2 rfl rfl rfl) ?_; refine zA rfl (zBy hs 0 (mfL x e o) rfl zCb zF2 rfl rfl) ?_; refine zAb rfl en45 (validM_sl hE hs hm.cons.cons.cons.cons hob) ?_; clear hs; rintro _ w ⟨eb, rfl, hs⟩; refine zA rfl (zA0 (v := flV ad _ _) rfl) ?_; refine zA6 (zA3 (zA1 ?_)); refine zA rfl (zA2 (v := flV ad _ _) rfl) ?_; refine zA rfl (run_neF (mfF_ok x).place rfl) ?_; refine zA6 ?_; refine zB rfl ?_ ?_
    ·
     intro h12; have g12 := zEt h12; refine zA3 (zA1 ?_); refine zA rfl (zA2 (v := flV ad _ _) rfl) ?_; refine zA rfl (zA0 (v := flV ad _ _) rfl) ?_; refine zA6 ?_; refine zAc ?_; refine zBd (v := flV ad _ _) rfl rfl ?_
     have h0 : (mfF x).1 ≠ 0 := by simpa using h12
     rw [Vw.apply_bad h0]; exact ⟨_, rfl, eb, rfl, Mem.closeV1 ho (hs.arr [0, 2, 3, 4] 5 (by decide))⟩
    ·
     intro h12; have g12 := zEs h12
     have h0 : (mfF x).1 = 0 := by simpa using h12
     replace hs := hs.tail; refine zAd ?_; refine zA3 ?_; refine zA3 (zA1 ?_); refine zA rfl (zA4 (o' := 0) zF0 rfl sz3 rfl rfl rfl) ?_; refine zA rfl (zA7 uz3 rfl rfl (hs.cellAt 0 rfl rfl)) ?_; refine zA rfl (zB9 rfl rfl) ?_; refine zA rfl (zA2 (v := .bool _) rfl) ?_; refine zB0 (t := _) (d := 17) rfl ?_ ?_
     ·
      intro h16; have g16 := of_decide_eq_true h16; refine zA9 rfl rfl rfl h16 ?_; refine zA9 rfl rfl rfl h16 ?_; refine zA9 rfl rfl rfl h16 ?_; refine zA rfl (zAk (v := .bool _) rfl h16 rfl) ?_; refine zA6 ?_; refine zB6 rfl rfl ?_; refine zA3 (zA1 ?_); refine zA rfl (zA7 zCe rfl rfl (hE.cellW hs 112 (by decide) rfl)) ?_; refine zA rfl (zA0 (v := zAh ad _) rfl) ?_; refine zA6 ?_; refine zAc ?_; refine zBd (v := zAh ad _) rfl rfl ?_; rw [Vw.apply_kind h0 (by omega)]; exact ⟨_, rfl, ApR.bare (Mem.closeV ho hs.tail)⟩
     ·
      intro h16; have g16 := of_decide_eq_false h16; refine zAi rfl rfl h16 ?_; refine zA rfl (zA4 (o' := 0) zF0 rfl sz3 rfl rfl rfl) ?_; refine zAi rfl rfl h16 ?_; refine zA rfl (zA7 uz3 rfl rfl (hs.cellAt 0 rfl rfl)) ?_; refine zAi rfl rfl h16 ?_; refine zA rfl (zBl rfl rfl) ?_; refine zA rfl (zAg (v := .bool _) rfl h16 rfl) ?_; refine zA6 ?_; refine zB rfl ?_ ?_
      ·
       intro h20; have g20 := of_decide_eq_true h20; refine zA3 (zA1 ?_); refine zA rfl (zA7 zCe rfl rfl (hE.cellW hs 112 (by decide) rfl)) ?_; refine zA rfl (zA0 (v := zAh ad _) rfl) ?_; refine zA6 ?_; refine zAc ?_; refine zBd (v := zAh ad _) rfl rfl ?_; rw [Vw.apply_kind h0 (by omega)]; exact ⟨_, rfl, ApR.bare (Mem.closeV ho hs.tail)⟩
      ·
       intro h20; have g20 := of_decide_eq_false h20; refine zAd ?_; refine zA3 ?_; refine zAp zBk hs ?_; intro w tr hK; replace hs := tr _ hs; clear tr; refine zA5 0 rfl rfl (fun w hs => zA2 (v := .pointer (some _)) rfl) hK ?_; refine zA5 1 rfl rfl (fun w hs => zA8 rfl) hK ?_; refine zA5 2 rfl rfl (fun w hs => zA4 (o' := 0) uz131 rfl sz129 rfl rfl rfl) hK ?_; refine zA5 3 rfl rfl (fun w hs => zA7 uz129 rfl rfl (hs.cellAt 1 rfl rfl)) hK ?_; refine zA5 4 rfl rfl (fun w hs => zA4 (o' := 1) zF0 rfl zF2 rfl rfl rfl) hK ?_; refine zA5 5 rfl rfl (fun w hs => zA4 zCb rfl sz3 rfl rfl rfl) hK ?_; refine zA5 6 rfl rfl (fun w hs => zA7 uz3 rfl rfl (hs.cellAt 0 rfl rfl)) hK ?_
       refine zA5 7 rfl rfl (fun w hs => zDo (hs.mapAt 2 rfl) zDp uz129 uz3 ze128 rfl rfl (o := some (itmV i ei oi)) hes) hK ?_; refine zA5 8 rfl rfl (fun w hs => zA2 (v := .tuple _) rfl) hK ?_; refine zA5 9 rfl rfl (fun w hs => zAa (v := .agg _) rfl rfl) hK ?_; refine zA5 10 rfl rfl (fun w hs => zAa (v := .bool _) rfl rfl) hK ?_; refine zAe [11] ?_; refine ⟨⟨_, rfl, ?_⟩, trivial⟩; refine zBn hs rfl ze128 ?_; clear hs; intro b6 w hs
       try simp only [zzs, zzz] at hs
       clear hK; have hK := hs.tail; refine zA6 ⟨hK, ?_⟩; refine zAe [12] ?_; refine ⟨⟨_, rfl, ?_⟩, trivial⟩; refine zAn hs 0 rfl rfl rfl sz128 rfl rfl ?_; clear hs; intro w hs
       try simp only [zzs, zzz] at hs
       clear hK; have hK := hs.tail; refine zA6 ⟨hK, ?_⟩; refine zA5 13 rfl rfl (fun w hs => zA0 (v := .bool _) rfl) hK ?_; refine zAr (by kernel_rfl) ?_; clear hK; refine zA3 ?_; refine zAo ?_; refine zA3 (zA1 ?_); refine zA rfl (zA4 (o' := 0) uz128 rfl sz3 rfl rfl rfl) ?_; refine zA rfl (zA7 uz3 rfl rfl (hs.cellAt 0 rfl rfl)) ?_; refine zA rfl (zA4 (o' := 0) zF0 rfl sz3 rfl rfl rfl) ?_; refine zA rfl (zA7 uz3 rfl rfl (hs.cellAt 1 rfl rfl)) ?_; refine zAb rfl en133 (nextE_sl hs i.st k) ?_; clear hs; rintro _ w ⟨rfl, hs⟩; refine zA rfl (zBt rfl) ?_; refine zA rfl (zA0 (v := .bool _) rfl) ?_; refine zA6 ?_; refine zB rfl ?_ ?_
       ·
        intro h39; replace h39 := zEu h39; refine zA3 (zA1 ?_); refine zA rfl (zA7 zCe rfl rfl (hE.cellW hs 113 (by decide) rfl)) ?_; refine zA rfl (zA0 (v := zAh ad _) rfl) ?_; refine zA6 ?_; refine zAc ?_; refine zBd (v := zAh ad _) rfl rfl ?_; rw [Vw.apply_state h0 (by omega) (by rw [hst]; exact h39)]; exact ⟨_, rfl, ApR.bare (Mem.closeV ho hs.tail.tail)⟩
       ·
        intro h39; replace h39 := zE0 h39; refine zA3 (zA1 ?_); refine zA rfl (zA2 (v := .bool _) rfl) ?_; refine zA rfl (zBt rfl) ?_; refine zA rfl (zA2 (v := .bool _) rfl) ?_; refine zA9 rfl rfl rfl (zBj (rfl)) ?_; refine zA9 rfl rfl rfl (zBj (rfl)) ?_; refine zA9 rfl rfl rfl (zBj (rfl)) ?_; refine zA9 rfl rfl rfl (zBj (rfl)) ?_; refine zA9 rfl rfl rfl (zBj (rfl)) ?_; refine zA9 rfl rfl rfl (zBj (rfl)) ?_; refine zA rfl (zAg (v := .bool _) rfl (zBj (rfl)) rfl) ?_; refine zA rfl (zA0 (v := .bool _) rfl) ?_; refine zA6 ?_; refine zB4 rfl rfl ?_; refine zA3 (zA1 ?_); refine zA rfl (zA2 (v := .bool _) rfl) ?_; refine zA rfl (zA2 (v := .bool _) rfl) ?_; refine zAi rfl rfl (rfl) ?_
        refine zA rfl (zA4 (o' := 1) uz128 rfl zF2 rfl rfl rfl) ?_; refine zAi rfl rfl (rfl) ?_; refine zA rfl (zBy hs 0 (mfL i.m ei oi) rfl zCb zF2 rfl rfl) ?_; refine zAi rfl rfl (rfl) ?_; refine zA rfl (zA4 (o' := 1) zF0 rfl zF2 rfl rfl rfl) ?_; refine zAi rfl rfl (rfl) ?_; refine zA rfl (zBy hs 1 (mfL x e o) rfl zCb zF2 rfl rfl) ?_; refine zAi rfl rfl (rfl) ?_; refine zAb rfl en67 (sameM_sl hs hmi.cons.cons hm.cons.cons.cons.cons.cons (by omega) (by omega)) ?_; clear hs; rintro _ w ⟨rfl, hs⟩; refine zAi rfl rfl (rfl) ?_; refine zA rfl (zBt rfl) ?_; refine zA rfl (zAk (v := .bool _) rfl (rfl) rfl) ?_; refine zA rfl (zA0 (v := .bool _) rfl) ?_; refine zA6 ?_; refine zB rfl ?_ ?_
        ·
         intro h61; replace h61 := zEu h61; refine zA3 (zA1 ?_); refine zA rfl (zA7 zCe rfl rfl (hE.cellW hs 103 (by decide) rfl)) ?_; refine zA rfl (zA0 (v := zAh ad _) rfl) ?_; refine zA6 ?_; refine zAc ?_; refine zBd (v := zAh ad _) rfl rfl ?_; rw [Vw.apply_old h0 (by omega) (by rw [hst]; exact h39) hV, if_neg (of_decide_eq_false h61)]; exact ⟨_, rfl, ApR.bare (Mem.closeV ho hs.tail.tail)⟩
        ·
         intro h61; replace h61 := zE0 h61; refine zAd ?_; refine zA3 ?_; refine zAp zBk (hs.drop 3) ?_; intro w tr hK; replace hs := tr _ hs; clear tr; refine zA5 0 rfl rfl (fun w hs => zA2 (v := .pointer (some _)) rfl) hK ?_; refine zA5 1 rfl rfl (fun w hs => zA8 rfl) hK ?_; refine zA5 2 rfl rfl (fun w hs => zA4 (o' := 0) uz131 rfl sz129 rfl rfl rfl) hK ?_; refine zA5 3 rfl rfl (fun w hs => zA7 uz129 rfl rfl (hs.cellAt 2 rfl rfl)) hK ?_; refine zA5 4 rfl rfl (fun w hs => zA4 (o' := 1) zF0 rfl zF2 rfl rfl rfl) hK ?_; refine zA5 5 rfl rfl (fun w hs => zA4 zCb rfl sz3 rfl rfl rfl) hK ?_; refine zA5 6 rfl rfl (fun w hs => zA7 uz3 rfl rfl (hs.cellAt 1 rfl rfl)) hK ?_
         refine zA5 7 rfl rfl (fun w hs => zA4 (o' := 0) zF0 rfl sz3 rfl rfl rfl) hK ?_; refine zA5 8 rfl rfl (fun w hs => zA7 uz3 rfl rfl (hs.cellAt 1 rfl rfl)) hK ?_; refine zA5 9 rfl rfl (fun w hs => zA4 (o' := 1) zF0 rfl zF2 rfl rfl rfl) hK ?_; refine zA5 10 rfl rfl (fun w hs => zBy hs 1 (mfL x e o) rfl zCb zF2 rfl rfl) hK ?_; refine zAe [11] ?_; refine ⟨⟨_, rfl, ?_⟩, trivial⟩; refine zAb rfl en46 (cloneM_sl hs hm.cons.cons.cons.cons.cons (by have := mf_len h0; omega) (by have := mf_len h0; omega)) ?_; clear hs; rintro _ w ⟨s1, s2, rfl, hs⟩; clear hK; have hK := hs.tail.tail.drop 3; refine zA6 ⟨hK, ?_⟩
         refine @zF7 _ _ _ _ _ _ _ _ _ _ _ _ _ _ 12 _ rfl (by kernel_rfl) (by kernel_rfl) (by kernel_rfl) rfl (fun w hs => zFe (k := k) (m := x) (e := s1) (o := s2) uz128 ze128 pl128 rfl rfl) hK ?_; refine zAe [13] ?_; refine ⟨⟨_, rfl, ?_⟩, trivial⟩; refine zD4 (v := .agg _) hs 5 rfl zDp uz129 uz3 rfl rfl rfl ?_; clear hs; intro w hs
         try simp only [zzs, zzz] at hs
         clear hK; have hK := hs.tail.tail.drop 3; refine zA6 ⟨hK, ?_⟩; refine zAr (by kernel_rfl) ?_; clear hK; refine zA3 (zA1 ?_); refine zA rfl (zA0 (v := .nilIface) rfl) ?_; refine zA6 ?_; refine zAc ?_; refine zBd (v := .nilIface) rfl rfl ?_; rw [Vw.apply_old h0 (by omega) (by rw [hst]; exact h39) hV, if_pos (of_decide_eq_true h61)]; have h1 := Mem.closeItm (i := ⟨k, x⟩) (hs.arr [0, 1, 4, 5, 6] 7 (by decide)); have h2 := Mem.famPut (R := itmC) (k := x.id) h1 2 rfl (fun _ h => False.elim h); have hok := Vw.apply_ok ho k x; rw [Vw.apply_old h0 (by omega) (by rw [hst]; exact h39) hV, if_pos (of_decide_eq_true h61)] at hok
         exact ⟨_, rfl, by rw [← zAz ad]; exact ApR.bare (Mem.closeV hok h2)⟩
end
section
open Go.RowKit
variable {w : World}
end
section
open Go.RowKit
attribute [local irreducible] zAh
variable {g w : World} {L M : List HP} {ad : Nat → Addr} {p : Nat} {V : Vw}
def Vw.top : Vw → Int
  | [] => 0
  | x :: V => max (x.1 + 1) (Vw.top V)
theorem mf_id {x : Mf} (h : (mfF x).1 = 0) : 0 ≤ x.id ∧ x.id ≤ 2147483647 := by
  unfold mfF at h
  split at h
  · cases h
  · rename_i h1
    simp only [zBe, Bool.or_eq_true, decide_eq_true_eq, not_or] at h1
    omega
theorem Vw.ok.ids (h : V.ok) {k : Int} (hk : k ∈ zAl V) : 0 ≤ k ∧ k ≤ 2147483647 := by
  obtain ⟨x, hx, rfl⟩ := List.mem_map.1 hk; have h1 := h.fine x hx; have := mf_id h1.1; rw [h1.2.1] at this; exact this
structure NxI (V : Vw) (es left : List (Int × Value)) (m : Int) : Prop where
  nd : (zAl left).Nodup
  sub : ∀ k v, zAw left k = some v → zAw es k = some v
  ge : ∀ k ∈ zAl V, zAw left k = none → k + 1 ≤ m
  has : m = 0 ∨ ∃ k ∈ zAl V, m = k + 1
theorem NxI.step {es left : List (Int × Value)} {m : Int} (h : NxI V es left m) {k : Int} (hk : k ∈ zAl V) : NxI V es (zDa left k) (max m (k + 1)) := by
  refine ⟨nodup_del h.nd k, fun j v hj => ?_, fun j hj hn => ?_, ?_⟩
  · by_cases e : j = k
    · subst e; rw [zCl h.nd] at hj; cases hj
    · rw [zCc _ e] at hj; exact h.sub j v hj
  · by_cases e : j = k
    · subst e; omega
    · rw [zCc _ e] at hn; have := h.ge j hj hn; omega
  · rcases Int.le_total m (k + 1) with h2 | h2
    · exact .inr ⟨k, hk, by omega⟩
    · rw [Int.max_eq_left h2]; exact h.has
end
section
open Go.RowKit
attribute [local irreducible] zAh
variable {g w : World} {L M : List HP} {ad : Nat → Addr}
theorem wrapB (s : Nat) : IntKind.u8.wrap (s : Int) = (((UInt8.ofNat s).toNat : Nat) : Int) := by
  have h8 : (2 : Int) ^ 8 = 256 := by decide
  simp only [IntKind.wrap, IntKind.bits, IntKind.signed, h8, Bool.false_and, Bool.false_eq_true, if_false]; rw [UInt8.toNat_ofNat']
  omega
def vputF : Nat → Nat → List UInt8
  | 0, _ => []
  | f + 1, n => if n < 128 then [UInt8.ofNat n] else UInt8.ofNat (n % 128 + 128) :: vputF f (n / 128)
def zC4 (n : Nat) : List UInt8 := vputF 10 n
theorem zFr : ∀ f n, (vputF f n).length ≤ f
  | 0, _ => Nat.le_refl _
  | f + 1, n => by
    unfold vputF
    split
    · simp
    · simp [zFr f (n / 128)]
theorem low7 {m : Int} (h0 : 0 ≤ m) (h : m < 256) : bits .or .u8 m 128 = m % 128 + 128 := by
  have : ∀ m : Nat, m < 256 → bits .or .u8 (m : Int) 128 = (m : Int) % 128 + 128 := by decide +kernel
  have h1 := this m.toNat (by omega)
  rwa [Int.toNat_of_nonneg h0] at h1
theorem low7n (n : Nat) : bits .or .u8 (((UInt8.ofNat n).toNat : Nat) : Int) 128 = (((UInt8.ofNat (n % 128 + 128)).toNat : Nat) : Int) := by
  have h1 := (UInt8.ofNat n).toNat_lt; rw [low7 (by omega) (by omega), UInt8.toNat_ofNat', UInt8.toNat_ofNat']
  omega
theorem zEw (hs : Mem g w L) {a : Option Addr} {m c : Nat} {lb : List UInt8} {n : Nat} (hr : Rd g L (.slice a m c) (zAm lb)) (hm : m = lb.length) (hlen : lb.length ≤ 1000000) (hn : n < 18446744073709551616) : Calls Tryz.prog 142 #[.slice a m c, .int .u64 n] w (Ret fun v w' => ∃ a' c', v = .slice a' (lb ++ zC4 n).length c' ∧ Mem g w' (own (.slice a' (lb ++ zC4 n).length c') (zAm (lb ++ zC4 n)) :: L)) := by
  subst hm; refine zAf Tryz.func142 rfl rfl ?_
  skip
  refine zA3 (zA1 ?_); refine zA rfl (zA0 (v := .slice _ _ _) rfl) ?_; refine zA6 (zA3 (zA1 ?_)); refine zA rfl (zA2 (v := .slice _ _ _) rfl) ?_; refine zAb rfl en49 (zCj hs (l := lb) hr (by omega)) ?_; clear hs; rintro _ w ⟨a7, c7, rfl, hs⟩; rw [zAv] at hs ⊢; refine zA rfl (zA0 (v := .slice _ _ _) rfl) ?_; refine zA6 ?_; refine zA3 ?_; refine zAo ?_
  refine zBr (X := Nat × Nat × List UInt8 × Option Addr × Nat) [1, 5, 8, 9, 10, 11, 12, 13, 14, 15, 16, 17] (fun x => [(5, .slice x.2.2.2.1 x.2.2.1.length x.2.2.2.2), (1, .int .u64 (x.2.1 : Nat))]) (fun x w => 1 ≤ x.1 ∧ x.2.1 < 2 ^ (7 * x.1) ∧ x.2.1 < 18446744073709551616 ∧ x.2.2.1 ++ vputF x.1 x.2.1 = lb ++ zC4 n ∧ Mem g w (own (.slice x.2.2.2.1 x.2.2.1.length x.2.2.2.2) (zAm x.2.2.1) :: L)) (fun x => x.1) ((10, n, lb, a7, c7)) ?_ ?_ ?_
  · exact ⟨rfl, rfl, trivial⟩
  · exact ⟨show 1 ≤ 10 by decide, by show n < 2 ^ 70; omega, hn, rfl, hs⟩
  clear hs; rintro x ξ w hI; obtain ⟨f, q, out, oa, oc⟩ := x; obtain ⟨hf, hq, hq2, heq, hs⟩ := hI; simp only at hf hq hq2 heq hs
  have hol : out.length ≤ 1000020 := by have h1 := congrArg List.length heq; have h2 := zFr 10 n; simp only [List.length_append, zC4] at h1; omega
  show cw _ _ _ _ _ _ (updL (mix _ ξ _) [(5, .slice oa out.length oc), (1, .int .u64 (q : Nat))]) w
  refine zA3 ?_; refine zA3 (zA1 ?_); refine zA rfl (zA2 (v := .int .u64 _) rfl) ?_; refine zA rfl (zCw rfl rfl) ?_; refine zA6 ?_; refine zB rfl ?_ ?_
  ·
   intro h9; have g9 := of_decide_eq_true h9; obtain ⟨f, rfl⟩ : ∃ f', f = f' + 1 := ⟨f - 1, by omega⟩
   have h2 : 2 ^ (7 * (f + 1)) = 128 * 2 ^ (7 * f) := by rw [Nat.mul_add, Nat.pow_add]; omega
   have hq3 : q / 128 < 2 ^ (7 * f) := by rw [h2] at hq; exact Nat.div_lt_of_lt_mul hq
   have hf1 : 1 ≤ f := by rcases Nat.eq_zero_or_pos f with h | h; rw [h] at hq3; simp at hq3; omega; exact h
   have hst : vputF (f + 1) q = UInt8.ofNat (q % 128 + 128) :: vputF f (q / 128) := by conv => lhs; unfold vputF; rw [if_neg (by omega)]
   refine zAd ?_; refine zA3 ?_; refine zAo ?_; refine zA1 ?_; refine zA rfl (zA2 (v := .slice _ _ _) rfl) ?_; refine zA rfl (zA2 (v := .int .u64 _) rfl) ?_; refine zA rfl (zBm zFi uz5 rfl (c := (((UInt8.ofNat q).toNat : Nat) : Int)) (wrapB q)) ?_; refine zA rfl (zFm (v := .int .u8 (((UInt8.ofNat (q % 128 + 128)).toNat : Nat) : Int)) (by simp) rfl rfl (by rw [← low7n q]; rfl)) ?_; refine zB1 hs rfl ((zAm [UInt8.ofNat (q % 128 + 128)])) zCk zs5 rfl (zE2 (zC3 _)) rfl rfl rfl ?_; clear hs; intro b16 w hs
   try simp only [zzs, zzz] at hs
   refine zD3 hs rfl 1 rfl zCk in5 rfl rfl rfl (zCn (P := Tryz.prog) zCk ((Rd.cells (n := 1) (cs := zAm [UInt8.ofNat (q % 128 + 128)]) 0 rfl rfl).seq hs) (zC3 _)) (by simp only [zAv, List.length_cons, List.length_nil]; omega) (by simp only [zAv, List.length_cons, List.length_nil]; omega) ?_; clear hs; intro a17 c17 w hs; simp only [zzs, zzz] at hs; refine zA rfl (zA0 (v := .slice _ _ _) rfl) ?_; refine zA6 ?_; refine zA1 ?_; refine zA rfl (zA2 (v := .int .u64 _) rfl) ?_; refine zA rfl (run_shr rfl rfl (n := 7) (c := ((q / 128 : Nat) : Int)) rfl (by decide) (by omega)) ?_; refine zA rfl (zA0 (v := .int .u64 _) rfl) ?_; refine zA6 ?_
   have e1 : zAm out ++ zAm [UInt8.ofNat (q % 128 + 128)] = zAm (out ++ [UInt8.ofNat (q % 128 + 128)]) := (zDh _ _).symm
   have e2 : (zAm out).length + (zAm [UInt8.ofNat (q % 128 + 128)]).length = (out ++ [UInt8.ofNat (q % 128 + 128)]).length := by simp [zAv]
   rw [e1, e2] at hs; exact ⟨(f, q / 128, out ++ [UInt8.ofNat (q % 128 + 128)], a17, c17), by simp only; omega, ⟨hf1, hq3, by show q / 128 < _; omega, by rw [← heq, hst]; simp, hs.tail⟩, ⟨show Value.slice a17 ((zAm out).length + (zAm [UInt8.ofNat (q % 128 + 128)]).length) c17 = Value.slice a17 (out ++ [UInt8.ofNat (q % 128 + 128)]).length c17 from by rw [e2], rfl, trivial⟩, by repeat (first | exact Out.mix _ _ _ | refine Out.updo rfl ?_ | refine Out.upd rfl ?_ | refine Out.mixIn rfl ?_)⟩
  ·
   intro h9; have g9 := of_decide_eq_false h9; obtain ⟨f, rfl⟩ : ∃ f', f = f' + 1 := ⟨f - 1, by omega⟩
   have hst : vputF (f + 1) q = [UInt8.ofNat q] := by unfold vputF; rw [if_pos (by omega)]
   rw [hst] at heq; refine zBp rfl ?_; refine zA3 (zA1 ?_); refine zA rfl (zA2 (v := .slice _ _ _) rfl) ?_; refine zA rfl (zA2 (v := .int .u64 _) rfl) ?_; refine zA rfl (zBm zFi uz5 rfl (c := (((UInt8.ofNat q).toNat : Nat) : Int)) (wrapB q)) ?_; refine zB1 hs rfl ((zAm [UInt8.ofNat q])) zCk zs5 rfl (zE2 (zC3 _)) rfl rfl rfl ?_; clear hs; intro b21 w hs
   try simp only [zzs, zzz] at hs
   refine zD3 hs rfl 1 rfl zCk in5 rfl rfl rfl (zCn (P := Tryz.prog) zCk ((Rd.cells (n := 1) (cs := zAm [UInt8.ofNat q]) 0 rfl rfl).seq hs) (zC3 _)) (by simp only [zAv, List.length_cons, List.length_nil]; omega) (by simp only [zAv, List.length_cons, List.length_nil]; omega) ?_; clear hs; intro a22 c22 w hs; simp only [zzs, zzz] at hs; refine zA rfl (zA0 (v := .slice _ _ _) rfl) ?_; refine zA6 ?_; refine zAc ?_; refine zBd (v := .slice _ _ _) rfl rfl ?_
   have e1 : zAm out ++ zAm [UInt8.ofNat q] = zAm (lb ++ zC4 n) := by rw [← zDh, heq]
   have e2 : (zAm out).length + (zAm [UInt8.ofNat q]).length = (lb ++ zC4 n).length := by rw [← heq]; simp [zAv]
   rw [e1, e2] at hs; exact ⟨_, rfl, a22, c22, by rw [e2], hs.tail⟩
theorem putint_sl (hs : Mem g w L) {a : Option Addr} {m c : Nat} {lb : List UInt8} {n : Int} {u v q x : Int} {z : Nat} (hr : Rd g L (.slice a m c) (zAm lb)) (hm : m = lb.length) (hlen : lb.length ≤ 1000000)
    (h1 : IntKind.u64.wrap n = u) (h2 : IntKind.u64.wrap (u * 2 ^ 1) = v) (h3 : n / 2 ^ 63 = q) (h4 : IntKind.u64.wrap q = x) (h5 : bits .xor .u64 v x = (z : Int)) (hz : z < 18446744073709551616) :
    Calls Tryz.prog 175 #[.slice a m c, .int .i64 n] w (Ret fun v w' => ∃ a' c', v = .slice a' (lb ++ zC4 z).length c' ∧ Mem g w' (own (.slice a' (lb ++ zC4 z).length c') (zAm (lb ++ zC4 z)) :: L)) := by
  refine zAf Tryz.func175 rfl rfl ?_
  skip
  refine zA3 (zA1 ?_); refine zA rfl (zA0 (v := .slice _ _ _) rfl) ?_; refine zA6 (zA3 (zA1 ?_)); refine zA rfl (zA2 (v := .slice _ _ _) rfl) ?_; refine zA rfl (zA2 (v := .int .i64 _) rfl) ?_; refine zA rfl (zBm uz2 zFi rfl h1) ?_; refine zA rfl (run_shl rfl rfl (n := 1) rfl (by decide) h2) ?_; refine zA rfl (zA2 (v := .int .i64 _) rfl) ?_; refine zA rfl (run_shr rfl rfl (n := 63) rfl (by decide) h3) ?_; refine zA rfl (zBm uz2 zFi rfl h4) ?_; refine zA rfl (zFm (v := .int .u64 (z : Nat)) (by simp) rfl rfl (by rw [← h5]; rfl)) ?_; refine zAb rfl en142 (zEw hs hr hm hlen hz) ?_; clear hs; rintro _ w ⟨a13, c13, rfl, hs⟩; refine zA rfl (zA0 (v := .slice _ _ _) rfl) ?_; refine zA6 ?_
  refine zAc ?_; refine zBd (v := .slice _ _ _) rfl rfl ?_; exact ⟨_, rfl, a13, c13, rfl, hs⟩
end
section
open Go.RowKit
theorem u64_nat (a : Nat) (ha : a < 18446744073709551616) : (BitVec.ofInt 64 (a : Int)).toNat = a := by
  rw [BitVec.ofInt_natCast, BitVec.toNat_ofNat]; exact Nat.mod_eq_of_lt (by omega)
theorem zD1 (n : Int) : IntKind.u64.wrap n = n % 18446744073709551616 := by simp [IntKind.wrap, IntKind.bits, IntKind.signed]
def zig (z : Int) : Nat := if 0 ≤ z then (2 * z).toNat else (-2 * z - 1).toNat
theorem zig_lt {z : Int} (h : zDi z) : zig z < 18446744073709551616 := by
  obtain ⟨h1, h2⟩ := h
  unfold zig
  split <;> omega
theorem xor_u64 (a b : Nat) (ha : a < 18446744073709551616) (hb : b < 18446744073709551616) : bits .xor .u64 (a : Int) (b : Int) = ((a ^^^ b : Nat) : Int) := by
  have hx : a ^^^ b < 2 ^ 64 := Nat.xor_lt_two_pow (by omega) (by omega)
  show IntKind.u64.wrap ((BitVec.ofInt 64 (a : Int) ^^^ BitVec.ofInt 64 (b : Int)).toNat : Int) = _
  rw [BitVec.toNat_xor, u64_nat a ha, u64_nat b hb, zD1]
  omega
theorem xor_max (a : Nat) (ha : a < 18446744073709551616) : a ^^^ 18446744073709551615 = 18446744073709551615 - a := by
  have h1 : (BitVec.ofNat 64 a ^^^ BitVec.allOnes 64).toNat = 18446744073709551615 - a := by
    rw [BitVec.xor_allOnes, BitVec.toNat_not, BitVec.toNat_ofNat, Nat.mod_eq_of_lt (by omega)]
  rw [BitVec.toNat_xor, BitVec.toNat_ofNat, Nat.mod_eq_of_lt (by omega)] at h1; exact h1
theorem zig_bits {z : Int} (h : zDi z) : bits .xor .u64 (IntKind.u64.wrap (IntKind.u64.wrap z * 2 ^ 1)) (IntKind.u64.wrap (z / 2 ^ 63)) = (zig z : Int) := by
  obtain ⟨h1, h2⟩ := h
  have h63 : (2 : Int) ^ 63 = 9223372036854775808 := by decide
  have h21 : (2 : Int) ^ 1 = 2 := by decide
  rw [zD1, zD1, zD1, h63, h21]
  rcases Int.lt_or_le z 0 with hz | hz
  · have e1 : z % 18446744073709551616 * 2 % 18446744073709551616 = (((18446744073709551616 + 2 * z).toNat : Nat) : Int) := by omega
    have e2 : z / 9223372036854775808 % 18446744073709551616 = ((18446744073709551615 : Nat) : Int) := by omega
    rw [e1, e2, xor_u64 _ _ (by omega) (by decide), xor_max _ (by omega)]
    unfold zig
    rw [if_neg (by omega)]
    omega
  · have e1 : z % 18446744073709551616 * 2 % 18446744073709551616 = (((2 * z).toNat : Nat) : Int) := by omega
    have e2 : z / 9223372036854775808 % 18446744073709551616 = ((0 : Nat) : Int) := by omega
    rw [e1, e2, xor_u64 _ _ (by omega) (by decide), Nat.xor_zero]
    unfold zig
    rw [if_pos hz]
end
section
open Go.RowKit
attribute [local irreducible] zAh
variable {g w : World} {L M : List HP} {ad : Nat → Addr}
theorem Came.cap {a : Option Addr} {n c : Nat} {l : List Value} (h : Came g (.slice a n c) l) : n ≤ c := by
  obtain ⟨⟨a', n', c', hv, hn, hc, _⟩, _⟩ := h; simp only [Value.slice.injEq] at hv; obtain ⟨_, rfl, rfl⟩ := hv; exact hc
theorem run_bytesStr {P : Program} {ρ : Env} {dst : Option Tmp} {ty : TypeId} {pos : String} {aft : Array Edge} {x : Operand} {ts e td : TypeId} {b off n c : Nat} {l : List UInt8} (hs : P.underlying ts = some (.slice e)) (he : P.underlying e = some (.int .u8)) (hd : P.underlying td = some .string) (hx : ev ρ x = .slice (some ⟨b, off, none⟩) n c) (hn : n = l.length) (hc : ∀ (j : Nat) (v : Value), (zAm l)[j]? = some v → w.cell? ⟨b, off + j, none⟩ = some v) :
    (execOp (ev ρ) ⟨dst, .convert ts td x, ty, pos, aft, none⟩).run P w = .ok (.value (.string ⟨l.toArray⟩)) w := by
  subst hn; have h := run_convert_bytes_back (P := P) w ts td e ⟨b, off, none⟩ c l hs he hd (fun j hj => by rw [Addr.add_lit]; exact hc j _ (bytesL_at (List.getElem?_eq_getElem hj))); simp only [execOp, hx, Sem.run_bind, h, Result.andThen_ok, Sem.run_pure]
end
section
open Go.RowKit
structure Fl where
  id : Nat
  b : List UInt8
  syn : Nat
structure Chg where
  name : ByteArray
  gone : ByteArray
  f : Option Nat
structure Dk where
  room : Nat
  names : List (ByteArray × Nat)
  kept : List (ByteArray × Nat)
  changes : List Chg
  files : Nat
  armed : Nat
  down : Bool
  calls : Nat
  fs : List (Nat × Fl)
def Dk.empty (room : Nat) : Dk := ⟨room, [], [], [], 0, 0, false, 0, []⟩
def Dk.begin (d : Dk) : Nat × Dk := if d.down then (110, d) else if d.armed = 0 then (0, d) else if d.armed = 1 then (110, { d with armed := 0, down := true }) else (0, { d with armed := d.armed - 1 })
def Dk.file (n : ByteArray) (d : Dk) : Nat × Option Nat := if d.down then (110, none) else match zAw d.names n with
  | some i => (0, some i)
  | none => (107, none)
def Chg.app (c : Chg) (l : List (ByteArray × Nat)) : List (ByteArray × Nat) :=
  let l1 := if c.gone = ByteArray.empty then l else zDa l c.gone
  match c.f with
  | some i => zBv l1 c.name i
  | none => l1
def Dk.change (c : Chg) (d : Dk) : Dk := { d with names := c.app d.names, changes := d.changes ++ [c], calls := d.calls + 1 }
def Dk.len (d : Dk) (i : Nat) : Nat := ((zAw d.fs i).map (·.b.length)).getD 0
def Dk.used (d : Dk) : Nat := (d.names.map fun x => d.len x.2).sum
def Dk.find (n : ByteArray) (d : Dk) : Nat × Option Nat × Dk := if d.begin.1 = 0 then ((d.begin.2.file n).1, (d.begin.2.file n).2, d.begin.2) else (110, none, d.begin.2)
def Dk.setF (d : Dk) (i : Nat) (f : Fl) : Dk := { d with fs := zBv d.fs i f }
def Dk.fl (d : Dk) (i : Nat) : Fl := (zAw d.fs i).getD ⟨0, [], 0⟩
def Dk.create (n : ByteArray) (d : Dk) : Nat × Dk :=
  if d.begin.1 ≠ 0 then (110, d.begin.2) else
  let d1 := d.begin.2
  if zBq n.data.toList = false then (106, d1) else if (zAw d1.names n).isSome then (108, d1) else
  (0, ({ d1 with files := d1.files + 1, fs := d1.fs ++ [(d1.files + 1, ⟨d1.files + 1, [], 0⟩)] } : Dk).change ⟨n, ByteArray.empty, some (d1.files + 1)⟩)
def Dk.append (n : ByteArray) (b : List UInt8) (d : Dk) : Nat × Dk :=
  match d.find n with
  | (_, some i, d1) => if d1.room < d1.used + b.length then (109, d1) else (0, { d1.setF i { d1.fl i with b := (d1.fl i).b ++ b } with calls := d1.calls + 1 })
  | (c, none, d1) => (c, d1)
def Dk.cut (n : ByteArray) (k : Int) (d : Dk) : Nat × Dk :=
  match d.find n with
  | (_, some i, d1) => if k < 0 ∨ ((d1.fl i).b.length : Int) < k then (105, d1) else (0, { d1.setF i { d1.fl i with b := (d1.fl i).b.take k.toNat, syn := k.toNat } with calls := d1.calls + 1 })
  | (c, none, d1) => (c, d1)
def Dk.sync (n : ByteArray) (d : Dk) : Nat × Dk :=
  match d.find n with
  | (_, some i, d1) => (0, { d1.setF i { d1.fl i with syn := (d1.fl i).b.length } with calls := d1.calls + 1 })
  | (c, none, d1) => (c, d1)
def Dk.rename (n m : ByteArray) (d : Dk) : Nat × Dk :=
  match d.find n with
  | (_, some i, d1) => if zBq m.data.toList = false then (106, d1) else (0, d1.change ⟨m, if n = m then ByteArray.empty else n, some i⟩)
  | (c, none, d1) => (c, d1)
def Dk.remove (n : ByteArray) (d : Dk) : Nat × Dk :=
  match d.find n with
  | (_, some _, d1) => (0, d1.change ⟨ByteArray.empty, n, none⟩)
  | (c, none, d1) => (c, d1)
def Dk.syncDir (d : Dk) : Nat × Dk := if d.begin.1 ≠ 0 then (110, d.begin.2) else (0, { d.begin.2 with kept := d.begin.2.names, changes := [], calls := d.begin.2.calls + 1 })
def Dk.readR (n : ByteArray) (off k : Int) (d : Dk) : Nat × List UInt8 :=
  match d.file n with
  | (_, some i) => if off < 0 ∨ k < 0 ∨ ((d.fl i).b.length : Int) < off ∨ ((d.fl i).b.length : Int) - off < k then (105, []) else (0, ((d.fl i).b.take (off.toNat + k.toNat)).drop off.toNat)
  | (c, none) => (c, [])
def pickN (picks : List Int) (k n : Nat) : Nat := match picks[k]? with
  | some x => (x % ((n : Int) + 1)).toNat
  | none => 0
def zCi (l : List (ByteArray × Nat)) (cs : List Chg) : List (ByteArray × Nat) := cs.foldl (fun l c => c.app l) l
def keptIds (fs : List (Nat × Fl)) (kept : List (ByteArray × Nat)) : List Nat := (zAl fs).filter fun i => decide (i ∈ kept.map (·.2))
def Fl.crashed (f : Fl) (picks : List Int) (k : Nat) : Fl := { f with b := f.b.take (f.syn + pickN picks (k + 1) (f.b.length - f.syn)), syn := (f.b.take (f.syn + pickN picks (k + 1) (f.b.length - f.syn))).length }
def zDy (picks : List Int) : Nat → List Nat → List (Nat × Fl) → List (Nat × Fl)
  | _, [], fs => fs
  | k, i :: l, fs => zDy picks (k + 1) l (match zAw fs i with | some f => zBv fs i (f.crashed picks k) | none => fs)
def Dk.crash (picks : List Int) (d : Dk) : Dk :=
  let kept := zCi d.kept (d.changes.take (pickN picks 0 d.changes.length))
  { d with kept := kept, names := kept, changes := [], armed := 0, down := false, fs := zDy picks 0 (keptIds d.fs kept) d.fs }
structure Dk.okB (d : Dk) : Prop where
  room : d.room ≤ 4194304
  ids : (zAl d.fs).Pairwise (· < ·) ∧ ∀ i ∈ zAl d.fs, 1 ≤ i ∧ i ≤ d.files
  fid : ∀ i f, zAw d.fs i = some f → f.id = i ∧ f.syn ≤ f.b.length ∧ f.b.length ≤ 4194304
  nnd : (zAl d.names).Nodup
  knd : (zAl d.kept).Nodup
  nin : ∀ x ∈ d.names, x.2 ∈ zAl d.fs
  kin : ∀ x ∈ d.kept, x.2 ∈ zAl d.fs
  cin : ∀ c ∈ d.changes, ∀ i, c.f = some i → i ∈ zAl d.fs
structure Dk.ok (d : Dk) : Prop extends Dk.okB d where
  fcl : d.files ≤ d.calls
  nl : d.names.length ≤ d.calls
  kl : d.kept.length + d.changes.length ≤ d.calls
  al : d.armed ≤ 9223372036854775807
end
section
open Go.RowKit
variable {d : Dk} {n m : ByteArray} {i : Nat}
theorem zEo {κ α : Type} [DecidableEq κ] {l : List (κ × α)} {k : κ} {v : α} (h : zAw l k = some v) : k ∈ zAl l := List.mem_map_of_mem (zCq h)
theorem zD7 {κ α : Type} [DecidableEq κ] {l : List (κ × α)} {k : κ} (h : k ∈ zAl l) : ∃ v, zAw l k = some v := by
  cases hc : zAw l k with
  | some v => exact ⟨v, rfl⟩
  | none => exact absurd h ((zB7 _ _).1 hc)
theorem aput_keys {κ α : Type} [DecidableEq κ] {l : List (κ × α)} {k : κ} {v : α} (h : k ∈ zAl l) : zAl (zBv l k v) = zAl l := by rw [zEl, if_pos h]
theorem aput_nodup {κ α : Type} [DecidableEq κ] {l : List (κ × α)} {k : κ} {v : α} (h : (zAl l).Nodup) : (zAl (zBv l k v)).Nodup := by
  rw [zEl]
  split
  · exact h
  · rename_i hn
    rw [List.nodup_append]; refine ⟨h, by simp, fun a ha c hc e => ?_⟩; simp only [List.mem_cons, List.not_mem_nil, or_false] at hc; subst hc; exact hn (e ▸ ha)
theorem aput_in {κ α : Type} [DecidableEq κ] {l : List (κ × α)} {k : κ} {v : α} {x : κ × α} (h : x ∈ zBv l k v) : x = (k, v) ∨ x ∈ l := by
  induction l with
  | nil => simp [zBv] at h; exact .inl h
  | cons y l ih =>
    obtain ⟨a, b⟩ := y; simp only [zBv] at h
    split at h
    · rcases List.mem_cons.1 h with h | h
      · exact .inl h
      · exact .inr (List.mem_cons_of_mem _ h)
    · rcases List.mem_cons.1 h with h | h
      · exact .inr (by rw [h]; exact List.mem_cons_self ..)
      · rcases ih h with h | h
        · exact .inl h
        · exact .inr (List.mem_cons_of_mem _ h)
theorem adel_in {κ α : Type} [DecidableEq κ] {l : List (κ × α)} {k : κ} {x : κ × α} (h : x ∈ zDa l k) : x ∈ l := by
  induction l with
  | nil => simp [zDa] at h
  | cons y l ih =>
    obtain ⟨a, b⟩ := y; simp only [zDa] at h
    split at h
    · exact List.mem_cons_of_mem _ h
    · rcases List.mem_cons.1 h with h | h
      · rw [h]; exact List.mem_cons_self ..
      · exact List.mem_cons_of_mem _ (ih h)
theorem aput_end {κ α : Type} [DecidableEq κ] {l : List (κ × α)} {k : κ} {v : α} (h : k ∉ zAl l) : zBv l k v = l ++ [(k, v)] := by
  induction l with
  | nil => rfl
  | cons x l ih =>
    obtain ⟨a, b⟩ := x; simp only [zAl, List.map_cons, List.mem_cons, not_or] at h; simp only [List.cons_append, zBv]; rw [if_neg (fun e => h.1 e.symm), ih h.2]
theorem Dk.okB.key (h : d.okB) (hi : i ∈ zAl d.fs) : 1 ≤ i ∧ i ≤ d.files := h.ids.2 i hi
theorem Dk.okB.fresh (h : d.okB) : d.files + 1 ∉ zAl d.fs := fun hm => by have := h.key hm; omega
theorem Dk.okB.fl_some (h : d.okB) (hi : i ∈ zAl d.fs) : zAw d.fs i = some (d.fl i) := by
  obtain ⟨f, hf⟩ := zD7 hi
  simp [Dk.fl, hf]
theorem Dk.begin_same (d : Dk) : d.begin.2.room = d.room ∧ d.begin.2.names = d.names ∧ d.begin.2.kept = d.kept ∧ d.begin.2.changes = d.changes ∧ d.begin.2.files = d.files ∧ d.begin.2.fs = d.fs ∧ d.begin.2.calls = d.calls ∧ d.begin.2.armed ≤ d.armed := by
  unfold Dk.begin
  split
  · exact ⟨rfl, rfl, rfl, rfl, rfl, rfl, rfl, Nat.le_refl _⟩
  · split
    · exact ⟨rfl, rfl, rfl, rfl, rfl, rfl, rfl, Nat.le_refl _⟩
    · split
      · exact ⟨rfl, rfl, rfl, rfl, rfl, rfl, rfl, Nat.zero_le _⟩
      · exact ⟨rfl, rfl, rfl, rfl, rfl, rfl, rfl, Nat.sub_le _ _⟩
theorem Dk.begin_code (d : Dk) : d.begin.1 = 0 ∨ d.begin.1 = 110 := by
  unfold Dk.begin
  split
  · exact .inr rfl
  · split
    · exact .inl rfl
    · split
      · exact .inr rfl
      · exact .inl rfl
theorem Dk.okB.same {e : Dk} (h : d.okB) (h1 : e.room = d.room) (h2 : e.names = d.names) (h3 : e.kept = d.kept) (h4 : e.changes = d.changes) (h5 : e.files = d.files) (h6 : e.fs = d.fs) : e.okB :=
  ⟨h1 ▸ h.room, by rw [h6, h5]; exact h.ids, by rw [h6]; exact h.fid, by rw [h2]; exact h.nnd, by rw [h3]; exact h.knd, by rw [h2, h6]; exact h.nin, by rw [h3, h6]; exact h.kin, by rw [h4, h6]; exact h.cin⟩
theorem Dk.okB.begin (h : d.okB) : d.begin.2.okB := by
  obtain ⟨h1, h2, h3, h4, h5, h6, _⟩ := d.begin_same; exact h.same h1 h2 h3 h4 h5 h6
theorem Chg.app_nodup {c : Chg} {l : List (ByteArray × Nat)} (h : (zAl l).Nodup) : (zAl (c.app l)).Nodup := by
  have h1 : (zAl (if c.gone = ByteArray.empty then l else zDa l c.gone)).Nodup := by
    split
    · exact h
    · rw [zEk h]; exact h.filter _
  unfold Chg.app
  cases c.f with
  | none => exact h1
  | some i => exact aput_nodup h1
theorem Chg.app_in {c : Chg} {l : List (ByteArray × Nat)} {S : Nat → Prop} (h : ∀ x ∈ l, S x.2) (hc : ∀ i, c.f = some i → S i) : ∀ x ∈ c.app l, S x.2 := by
  have h1 : ∀ x ∈ (if c.gone = ByteArray.empty then l else zDa l c.gone), S x.2 := by
    split
    · exact h
    · exact fun x hx => h x (adel_in hx)
  intro x hx
  unfold Chg.app at hx
  cases hf : c.f with
  | none => rw [hf] at hx; exact h1 x hx
  | some i =>
    rw [hf] at hx
    rcases aput_in hx with e | hx
    · rw [e]; exact hc i hf
    · exact h1 x hx
theorem Dk.okB.change (h : d.okB) {c : Chg} (hc : ∀ i, c.f = some i → i ∈ zAl d.fs) : (d.change c).okB :=
  ⟨h.room, h.ids, h.fid, Chg.app_nodup h.nnd, h.knd, Chg.app_in h.nin hc, h.kin, fun x hx i hi => by
    rcases List.mem_append.1 hx with hx | hx
    · exact h.cin x hx i hi
    · simp only [List.mem_cons, List.not_mem_nil, or_false] at hx; subst hx; exact hc i hi⟩
theorem Dk.okB.addF (h : d.okB) : ({ d with files := d.files + 1, fs := d.fs ++ [(d.files + 1, ⟨d.files + 1, [], 0⟩)] } : Dk).okB := by
  have hk : zAl (d.fs ++ [(d.files + 1, (⟨d.files + 1, [], 0⟩ : Fl))]) = zAl d.fs ++ [d.files + 1] := by simp [zAl]
  refine ⟨h.room, ?_, fun i f hf => ?_, h.nnd, h.knd, fun x hx => ?_, fun x hx => ?_, fun c hc i hi => ?_⟩
  · show (zAl (d.fs ++ _)).Pairwise _ ∧ ∀ i ∈ zAl (d.fs ++ _), 1 ≤ i ∧ i ≤ d.files + 1
    rw [hk]; refine ⟨List.pairwise_append.2 ⟨h.ids.1, by simp, fun a ha b hb => ?_⟩, fun i hi => ?_⟩
    · simp only [List.mem_cons, List.not_mem_nil, or_false] at hb
      have := h.key ha
      omega
    · rcases List.mem_append.1 hi with hi | hi
      · have := h.key hi; omega
      · simp only [List.mem_cons, List.not_mem_nil, or_false] at hi; omega
  · have hf : zAw (d.fs ++ [(d.files + 1, (⟨d.files + 1, [], 0⟩ : Fl))]) i = some f := hf
    rw [← aput_end h.fresh] at hf
    by_cases e : i = d.files + 1
    · subst e; rw [zB3] at hf; cases hf; exact ⟨rfl, Nat.le_refl _, by simp⟩
    · rw [zAy _ _ e] at hf; exact h.fid i f hf
  · show _ ∈ zAl (d.fs ++ _); rw [hk]; exact List.mem_append_left _ (h.nin x hx)
  · show _ ∈ zAl (d.fs ++ _); rw [hk]; exact List.mem_append_left _ (h.kin x hx)
  · show _ ∈ zAl (d.fs ++ _); rw [hk]; exact List.mem_append_left _ (h.cin c hc i hi)
theorem Dk.okB.setF (h : d.okB) (hi : i ∈ zAl d.fs) {f : Fl} (hf : f.id = i ∧ f.syn ≤ f.b.length ∧ f.b.length ≤ 4194304) (k : Nat) : ({ d.setF i f with calls := k } : Dk).okB := by
  have hk : zAl (zBv d.fs i f) = zAl d.fs := aput_keys hi; refine ⟨h.room, by show (zAl (zBv d.fs i f)).Pairwise _ ∧ ∀ j ∈ zAl (zBv d.fs i f), _; rw [hk]; exact h.ids, fun j x hx => ?_, h.nnd, h.knd, fun x hx => by show _ ∈ zAl (zBv d.fs i f); rw [hk]; exact h.nin x hx, fun x hx => by show _ ∈ zAl (zBv d.fs i f); rw [hk]; exact h.kin x hx, fun c hc j hj => by show _ ∈ zAl (zBv d.fs i f); rw [hk]; exact h.cin c hc j hj⟩; have hx : zAw (zBv d.fs i f) j = some x := hx
  by_cases e : j = i
  · subst e; rw [zB3] at hx; cases hx; exact hf
  · rw [zAy _ _ e] at hx; exact h.fid j x hx
theorem sum_mem {α : Type} (f : α → Nat) : ∀ {l : List α} {x : α}, x ∈ l → f x ≤ (l.map f).sum
  | y :: l, x, h => by
    simp only [List.map_cons, List.sum_cons]
    rcases List.mem_cons.1 h with rfl | h
    · omega
    · have := sum_mem f h; omega
theorem Dk.len_used (h : zAw d.names n = some i) : d.len i ≤ d.used := sum_mem (fun x : ByteArray × Nat => d.len x.2) (zCq h)
theorem Dk.okB.len_eq (h : d.okB) (hi : i ∈ zAl d.fs) : d.len i = (d.fl i).b.length := by unfold Dk.len; rw [h.fl_some hi]; rfl
theorem Dk.find_some {c : Nat} {d1 : Dk} (h : d.find n = (c, some i, d1)) : c = 0 ∧ d.begin = (0, d1) ∧ d1.down = false ∧ zAw d1.names n = some i := by
  unfold Dk.find at h
  split at h
  · rename_i h0
    have hb : d.begin = (0, d.begin.2) := by rw [← h0]
    simp only [Prod.mk.injEq] at h; obtain ⟨h1, h2, rfl⟩ := h
    unfold Dk.file at h1 h2
    cases hd : d.begin.2.down with
    | true => rw [hd] at h2; simp at h2
    | false =>
      rw [hd] at h1 h2; simp only [Bool.false_eq_true, if_false] at h1 h2
      cases ha : zAw d.begin.2.names n with
      | none => rw [ha] at h2; simp at h2
      | some j =>
        rw [ha] at h1 h2; simp only [Option.some.injEq] at h2; subst h2; exact ⟨h1.symm, hb, rfl, rfl⟩
  · simp at h
theorem adel_len {κ α : Type} [DecidableEq κ] (l : List (κ × α)) (k : κ) : (zDa l k).length ≤ l.length := by
  induction l with
  | nil => simp [zDa]
  | cons x l ih =>
    obtain ⟨a, b⟩ := x; simp only [zDa]
    split
    · simp
    · simpa using ih
theorem adel_shrink {κ α : Type} [DecidableEq κ] : ∀ {l : List (κ × α)} {k : κ} {v : α}, zAw l k = some v → (zDa l k).length < l.length
  | (a, b) :: l, k, v, h => by
    simp only [zAw] at h; simp only [zDa]
    split at h
    · rename_i e; rw [if_pos e]; simp
    · rename_i e; rw [if_neg e]; have := adel_shrink h; simpa using this
theorem aput_len {κ α : Type} [DecidableEq κ] (l : List (κ × α)) (k : κ) (v : α) : (zBv l k v).length ≤ l.length + 1 := by
  induction l with
  | nil => simp [zBv]
  | cons x l ih =>
    obtain ⟨a, b⟩ := x; simp only [zBv]
    split
    · simp
    · simpa using ih
theorem Chg.app_len (c : Chg) (l : List (ByteArray × Nat)) : (c.app l).length ≤ l.length + 1 := by
  have h1 : (if c.gone = ByteArray.empty then l else zDa l c.gone).length ≤ l.length := by
    split
    · exact Nat.le_refl _
    · exact adel_len _ _
  unfold Chg.app
  cases c.f with
  | none => exact Nat.le_succ_of_le h1
  | some i => exact Nat.le_trans (aput_len _ _ _) (by omega)
theorem Dk.ok.begin (h : d.ok) : d.begin.2.ok := by
  obtain ⟨h1, h2, h3, h4, h5, h6, h7, h8⟩ := d.begin_same; exact ⟨h.tookB.begin, by rw [h5, h7]; exact h.fcl, by rw [h2, h7]; exact h.nl, by rw [h3, h4, h7]; exact h.kl, by have := h.al; omega⟩
theorem Dk.ok.change (h : d.ok) {c : Chg} (hc : ∀ i, c.f = some i → i ∈ zAl d.fs) : (d.change c).ok := by
  have h1 := c.app_len d.names; have h2 := h.fcl; have h3 := h.nl; have h4 := h.kl; refine ⟨h.tookB.change hc, ?_, ?_, ?_, h.al⟩
  · show d.files ≤ d.calls + 1; omega
  · show (c.app d.names).length ≤ d.calls + 1; omega
  · show d.kept.length + (d.changes ++ [c]).length ≤ d.calls + 1; simp; omega
def Dk.addF (d : Dk) : Dk := { d with files := d.files + 1, fs := d.fs ++ [(d.files + 1, ⟨d.files + 1, [], 0⟩)] }
theorem Dk.ok.create (h : d.ok) {c : Chg} (hc : ∀ i, c.f = some i → i = d.files + 1) : (d.addF.change c).ok := by
  have h1 := c.app_len d.names; have h2 := h.fcl; have h3 := h.nl; have h4 := h.kl; refine ⟨h.tookB.addF.change fun i hi => ?_, ?_, ?_, ?_, h.al⟩
  · rw [hc i hi]; simp [zAl]
  · show d.files + 1 ≤ d.calls + 1; omega
  · show (c.app d.names).length ≤ d.calls + 1; omega
  · show d.kept.length + (d.changes ++ [c]).length ≤ d.calls + 1; simp; omega
theorem Dk.ok.setF (h : d.ok) (hi : i ∈ zAl d.fs) {f : Fl} (hf : f.id = i ∧ f.syn ≤ f.b.length ∧ f.b.length ≤ 4194304) : ({ d.setF i f with calls := d.calls + 1 } : Dk).ok := by
  have h2 := h.fcl; have h3 := h.nl; have h4 := h.kl; refine ⟨h.tookB.setF hi hf _, ?_, ?_, ?_, h.al⟩
  · show d.files ≤ d.calls + 1; omega
  · show d.names.length ≤ d.calls + 1; omega
  · show d.kept.length + d.changes.length ≤ d.calls + 1; omega
theorem Dk.ok.syncDir (h : d.ok) : ({ d with kept := d.names, changes := [], calls := d.calls + 1 } : Dk).ok := by
  have h2 := h.fcl; have h3 := h.nl; refine ⟨⟨h.room, h.ids, h.fid, h.nnd, h.nnd, h.nin, h.nin, fun c hc => by simp at hc⟩, ?_, ?_, ?_, h.al⟩
  · show d.files ≤ d.calls + 1; omega
  · show d.names.length ≤ d.calls + 1; omega
  · show d.names.length + 0 ≤ d.calls + 1; omega
theorem Dk.find_dk {c : Nat} {o : Option Nat} {d1 : Dk} (h : d.find n = (c, o, d1)) : d1 = d.begin.2 := by
  unfold Dk.find at h
  split at h <;> (simp only [Prod.mk.injEq] at h; exact h.2.2.symm)
theorem Dk.ok.find (h : d.ok) {c : Nat} {o : Option Nat} {d1 : Dk} (hf : d.find n = (c, o, d1)) : d1.ok := Dk.find_dk hf ▸ h.begin
theorem Dk.okB.named (h : d.okB) (hn : zAw d.names n = some i) : i ∈ zAl d.fs := h.nin _ (zCq hn)
theorem Dk.used_le (h : d.ok) : d.used ≤ d.calls * 4194304 := by
  have : ∀ l : List (ByteArray × Nat), (∀ x ∈ l, x.2 ∈ zAl d.fs) → (l.map fun x => d.len x.2).sum ≤ l.length * 4194304 := by
    intro l
    induction l with
    | nil => intro _; simp
    | cons x l ih =>
      intro hl
      have h1 := ih fun y hy => hl y (List.mem_cons_of_mem _ hy)
      have hx := hl x (List.mem_cons_self ..); have h2 := h.tookB.len_eq hx; have h3 := (h.fid _ _ (h.tookB.fl_some hx)).2.2; simp only [List.map_cons, List.sum_cons, List.length_cons]
      omega
  have h1 := this d.names h.nin; exact Nat.le_trans h1 (Nat.mul_le_mul_right _ h.nl)
end
section
open Go.RowKit
variable {d : Dk} {picks : List Int} {n i k : Nat}
theorem pickN_le (picks : List Int) (k n : Nat) : pickN picks k n ≤ n := by
  unfold pickN
  cases picks[k]? with
  | none => exact Nat.zero_le _
  | some x =>
    have h1 := Int.emod_nonneg x (b := (n : Int) + 1) (by omega); have h2 := Int.emod_lt_of_pos x (b := (n : Int) + 1) (by omega)
    show (x % ((n : Int) + 1)).toNat ≤ n
    omega
theorem applyAll_props {cs : List Chg} {S : Nat → Prop} : ∀ {l : List (ByteArray × Nat)}, (zAl l).Nodup → (∀ x ∈ l, S x.2) → (∀ c ∈ cs, ∀ i, c.f = some i → S i) → (zAl (zCi l cs)).Nodup ∧ (∀ x ∈ zCi l cs, S x.2) ∧ (zCi l cs).length ≤ l.length + cs.length := by
  induction cs with
  | nil => exact fun h1 h2 _ => ⟨h1, h2, Nat.le_refl _⟩
  | cons c cs ih =>
    intro l h1 h2 h3
    have h4 := ih (l := c.app l) (Chg.app_nodup h1) (Chg.app_in h2 (h3 c (List.mem_cons_self ..))) fun c' hc => h3 c' (List.mem_cons_of_mem _ hc)
    have h5 := c.app_len l; refine ⟨h4.1, h4.2.1, ?_⟩; have h6 := h4.2.2; simp only [zCi, List.foldl_cons, List.length_cons] at h6 ⊢
    omega
theorem Dk.okB.keys_rise (h : d.okB) : (zAl d.fs).Pairwise (· < ·) := h.ids.1
theorem keptIds_mem {fs : List (Nat × Fl)} {kept : List (ByteArray × Nat)} : i ∈ keptIds fs kept ↔ i ∈ zAl fs ∧ i ∈ kept.map (·.2) := by simp [keptIds]
def crashStep (picks : List Int) (k i : Nat) (fs : List (Nat × Fl)) : List (Nat × Fl) := match zAw fs i with | some f => zBv fs i (f.crashed picks k) | none => fs
theorem zFj : ∀ (l : List Nat) (k : Nat) (fs : List (Nat × Fl)), zAl (zDy picks k l fs) = zAl fs
  | [], _, _ => rfl
  | j :: l, k, fs => by
    simp only [zDy]; rw [zFj l]
    cases h : zAw fs j with
    | none => rfl
    | some f => exact aput_keys (zEo h)
theorem crashFs_other : ∀ (l : List Nat) (k : Nat) (fs : List (Nat × Fl)), i ∉ l → zAw (zDy picks k l fs) i = zAw fs i
  | [], _, _, _ => rfl
  | j :: l, k, fs, h => by
    simp only [List.mem_cons, not_or] at h; simp only [zDy]; rw [crashFs_other l _ _ h.2]
    cases hj : zAw fs j with
    | none => rfl
    | some f => exact zAy _ _ h.1
theorem crashFs_at : ∀ (l : List Nat) (k : Nat) (fs : List (Nat × Fl)) {q : Nat} {f : Fl}, l.Nodup → l[q]? = some i → zAw fs i = some f → zAw (zDy picks k l fs) i = some (f.crashed picks (k + q))
  | [], _, _, _, _, _, h, _ => by simp at h
  | j :: l, k, fs, 0, f, hn, h, hf => by
    simp only [List.getElem?_cons_zero, Option.some.injEq] at h; subst h; simp only [zDy, hf]; rw [crashFs_other l _ _ (List.nodup_cons.1 hn).1, zB3]
    rfl
  | j :: l, k, fs, q + 1, f, hn, h, hf => by
    simp only [List.getElem?_cons_succ] at h
    have hne : i ≠ j := fun e => (List.nodup_cons.1 hn).1 (e ▸ List.mem_of_getElem? h)
    simp only [zDy]; rw [show k + (q + 1) = k + 1 + q by omega]; refine crashFs_at l (k + 1) _ (List.nodup_cons.1 hn).2 h ?_
    cases hj : zAw fs j with
    | none => exact hf
    | some f' => rw [← hf]; exact zAy _ _ hne
theorem Fl.crashed_fine {f : Fl} (h : f.syn ≤ f.b.length) (picks : List Int) (k : Nat) : (f.crashed picks k).id = f.id ∧ (f.crashed picks k).syn ≤ (f.crashed picks k).b.length ∧ (f.crashed picks k).b.length ≤ f.b.length := by
  refine ⟨rfl, Nat.le_refl _, ?_⟩
  show (f.b.take _).length ≤ _
  simp
  omega
theorem zEr {P : Nat → Fl → Prop} (hP : ∀ i f picks k, P i f → P i (f.crashed picks k)) : ∀ (l : List Nat) (k : Nat) (fs : List (Nat × Fl)), (∀ i f, zAw fs i = some f → P i f) → ∀ i f, zAw (zDy picks k l fs) i = some f → P i f
  | [], _, _, h => h
  | j :: l, k, fs, h => by
    refine zEr hP l _ _ fun i f hf => ?_
    cases hj : zAw fs j with
    | none => simp only [hj] at hf; exact h i f hf
    | some f' =>
      simp only [hj] at hf
      by_cases e : i = j
      · subst e; rw [zB3] at hf; cases hf; exact hP _ _ _ _ (h _ _ hj)
      · rw [zAy _ _ e] at hf; exact h i f hf
theorem Dk.ok.crash (h : d.ok) (picks : List Int) : (d.crash picks).ok := by
  have h1 := applyAll_props (cs := d.changes.take (pickN picks 0 d.changes.length)) (l := d.kept) (S := fun i => i ∈ zAl d.fs) h.knd h.kin fun c hc i hi => h.cin c (List.mem_of_mem_take hc) i hi
  have h2 := h.kl; have h3 := h.fcl
  have h4 : (d.changes.take (pickN picks 0 d.changes.length)).length ≤ d.changes.length := by simp; omega
  have h5 := h1.2.2; refine ⟨⟨h.room, ?_, ?_, h1.1, h1.1, ?_, ?_, ?_⟩, h3, ?_, ?_, Nat.zero_le _⟩
  · show (zAl (zDy _ _ _ _)).Pairwise _ ∧ ∀ i ∈ zAl (zDy _ _ _ _), _; rw [zFj]; exact h.ids
  · exact zEr (P := fun i f => f.id = i ∧ f.syn ≤ f.b.length ∧ f.b.length ≤ 4194304) (fun i f picks k hf => by
      have := Fl.crashed_fine hf.2.1 picks k
      exact ⟨this.1.trans hf.1, this.2.1, Nat.le_trans this.2.2 hf.2.2⟩) _ _ _ h.fid
  · intro x hx; show _ ∈ zAl (zDy _ _ _ _); rw [zFj]; exact h1.2.1 x hx
  · intro x hx; show _ ∈ zAl (zDy _ _ _ _); rw [zFj]; exact h1.2.1 x hx
  · intro c hc; simp [Dk.crash] at hc
  · show (zCi _ _).length ≤ d.calls; omega
  · show (zCi _ _).length + 0 ≤ d.calls; omega
end
section
open Go.RowKit
variable {d : Dk} {n m : ByteArray} {i : Nat} {b : List UInt8}
theorem Dk.begin_up (h1 : d.down = false) (h2 : d.armed = 0) : d.begin = (0, d) := by simp [Dk.begin, h1, h2]
theorem Dk.find_up (h1 : d.down = false) (h2 : d.armed = 0) (hn : zAw d.names n = some i) : d.find n = (0, some i, d) := by simp [Dk.find, Dk.begin_up h1 h2, Dk.file, h1, hn]
theorem Dk.find_none (h1 : d.down = false) (h2 : d.armed = 0) (hn : zAw d.names n = none) : d.find n = (107, none, d) := by simp [Dk.find, Dk.begin_up h1 h2, Dk.file, h1, hn]
theorem Dk.append_up (h1 : d.down = false) (h2 : d.armed = 0) (hn : zAw d.names n = some i) (hr : d.used + b.length ≤ d.room) : d.append n b = (0, { d.setF i { d.fl i with b := (d.fl i).b ++ b } with calls := d.calls + 1 }) := by
  simp only [Dk.append, Dk.find_up h1 h2 hn]; rw [if_neg (by omega)]
theorem Dk.sync_up (h1 : d.down = false) (h2 : d.armed = 0) (hn : zAw d.names n = some i) : d.sync n = (0, { d.setF i { d.fl i with syn := (d.fl i).b.length } with calls := d.calls + 1 }) := by simp only [Dk.sync, Dk.find_up h1 h2 hn]
theorem Dk.create_up (h1 : d.down = false) (h2 : d.armed = 0) (hv : zBq n.data.toList = true) (hn : zAw d.names n = none) : d.create n = (0, ({ d with files := d.files + 1, fs := d.fs ++ [(d.files + 1, ⟨d.files + 1, [], 0⟩)] } : Dk).change ⟨n, ByteArray.empty, some (d.files + 1)⟩) := by simp [Dk.create, Dk.begin_up h1 h2, hv, hn]
theorem Dk.remove_up (h1 : d.down = false) (h2 : d.armed = 0) (hn : zAw d.names n = some i) : d.remove n = (0, d.change ⟨ByteArray.empty, n, none⟩) := by simp only [Dk.remove, Dk.find_up h1 h2 hn]
theorem Dk.syncDir_up (h1 : d.down = false) (h2 : d.armed = 0) : d.syncDir = (0, { d with kept := d.names, changes := [], calls := d.calls + 1 }) := by simp [Dk.syncDir, Dk.begin_up h1 h2]
end
section
open Go.RowKit
variable {g w : World} {L M : List HP} {p : Nat} {d : Dk} {ptr : List (Nat × Nat)}
def fptr (ptr : List (Nat × Nat)) (i : Nat) : Value := .pointer ((zAw ptr i).map fun b => ⟨b, 0, none⟩)
theorem zFs {i b : Nat} (h : zAw ptr i = some b) : fptr ptr i = .pointer (some ⟨b, 0, none⟩) := by simp [fptr, h]
def nmV (ptr : List (Nat × Nat)) (l : List (ByteArray × Nat)) : List (ByteArray × Value) := l.map fun x => (x.1, fptr ptr x.2)
theorem nmV_get (l : List (ByteArray × Nat)) (n : ByteArray) : zAw (nmV ptr l) n = (zAw l n).map (fptr ptr) := by
  induction l with
  | nil => rfl
  | cons x l ih =>
    obtain ⟨a, b⟩ := x; simp only [nmV, List.map_cons, zAw] at ih ⊢
    split
    · rfl
    · exact ih
theorem nmV_put (l : List (ByteArray × Nat)) (n : ByteArray) (i : Nat) : nmV ptr (zBv l n i) = zBv (nmV ptr l) n (fptr ptr i) := by
  induction l with
  | nil => rfl
  | cons x l ih =>
    obtain ⟨a, b⟩ := x; simp only [nmV, List.map_cons, zBv] at ih ⊢
    split
    · simp
    · simp only [List.map_cons, ih]
theorem nmV_del (l : List (ByteArray × Nat)) (n : ByteArray) : nmV ptr (zDa l n) = zDa (nmV ptr l) n := by
  induction l with
  | nil => rfl
  | cons x l ih =>
    obtain ⟨a, b⟩ := x; simp only [nmV, List.map_cons, zDa] at ih ⊢
    split
    · rfl
    · simp only [List.map_cons, ih]
theorem nmV_more {l : List (ByteArray × Nat)} {k b : Nat} (h : ∀ x ∈ l, x.2 ≠ k) : nmV (zBv ptr k b) l = nmV ptr l := by
  unfold nmV
  refine List.map_congr_left fun x hx => ?_
  simp only [fptr]; rw [zAy _ _ (h x hx)]
def fiC (b : Nat) (f : Fl) : HP := ex fun v : Option Addr × Nat => stars [cells b [.int .i64 f.id, .slice v.1 f.b.length v.2, .int .i64 f.syn] 154, own (.slice v.1 f.b.length v.2) (zAm f.b)]
theorem Mem.openF {b : Nat} {f : Fl} (hs : Mem g w (fiC b f :: L)) : ∃ a c, Mem g w (cells b [.int .i64 f.id, .slice a f.b.length c, .int .i64 f.syn] 154 :: own (.slice a f.b.length c) (zAm f.b) :: L) := by
  obtain ⟨⟨a, c⟩, h⟩ := hs.unex; exact ⟨a, c, h.unstars⟩
theorem Mem.closeF {b : Nat} {f : Fl} {a : Option Addr} {c : Nat} (hs : Mem g w (cells b [.int .i64 f.id, .slice a f.b.length c, .int .i64 f.syn] 154 :: own (.slice a f.b.length c) (zAm f.b) :: L)) : Mem g w (fiC b f :: L) :=
  Mem.ex (f := fun v : Option Addr × Nat => Go.Proofs.YthejaanobeonnaaGreatDoor.stars [cells b [.int .i64 f.id, .slice v.1 f.b.length v.2, .int .i64 f.syn] 154, own (.slice v.1 f.b.length v.2) (zAm f.b)]) (a, c) (Mem.stars (M := [cells b [.int .i64 f.id, .slice a f.b.length c, .int .i64 f.syn] 154, own (.slice a f.b.length c) (zAm f.b)]) hs)
def chgV (ptr : List (Nat × Nat)) (c : Chg) : List Value := [.string c.name, .string c.gone, match c.f with | some i => fptr ptr i | none => .pointer none]
theorem chgV_more {cs : List Chg} {k b : Nat} (h : ∀ c ∈ cs, ∀ i, c.f = some i → i ≠ k) : cs.map (chgV (zBv ptr k b)) = cs.map (chgV ptr) := by
  refine List.map_congr_left fun c hc => ?_
  unfold chgV
  cases hf : c.f with
  | none => rfl
  | some i => simp only [fptr]; rw [zAy _ _ (h c hc i hf)]
abbrev mapS (m : Nat) (es : List (ByteArray × Value)) : HP := mapC Value.string m es
def diskL (mn mk : Nat) (d : Dk) (sa : Option Addr) (sc : Nat) : List Value := [.int .i64 d.room, .map (some mn), .map (some mk), .slice sa d.changes.length sc, .int .i64 d.files, .int .i64 d.armed, .bool d.down, .int .i64 d.calls]
abbrev zC7 (p : Nat) (d : Dk) (mn mk : Nat) (sa : Option Addr) (sc : Nat) (ptr : List (Nat × Nat)) : List HP :=
  [cells p (diskL mn mk d sa sc) 88, mapS mn (nmV ptr d.names), mapS mk (nmV ptr d.kept), zEy 3 (.slice sa d.changes.length sc) (d.changes.map (chgV ptr)), famC fiC ptr d.fs]
def zBc (p : Nat) (d : Dk) : HP := ex fun x : Nat × Nat × Option Addr × Nat × List (Nat × Nat) => also (stars (zC7 p d x.1 x.2.1 x.2.2.1 x.2.2.2.1 x.2.2.2.2)) d.ok
theorem Mem.openD (hs : Mem g w (zBc p d :: L)) : d.ok ∧ ∃ mn mk sa sc ptr, Mem g w (zC7 p d mn mk sa sc ptr ++ L) := by
  obtain ⟨⟨mn, mk, sa, sc, ptr⟩, h⟩ := hs.unex; obtain ⟨h1, h2⟩ := h.unalso; exact ⟨h1, mn, mk, sa, sc, ptr, h2.unstars⟩
theorem Mem.closeD {mn mk : Nat} {sa : Option Addr} {sc : Nat} (ho : d.ok) (hs : Mem g w (zC7 p d mn mk sa sc ptr ++ L)) : Mem g w (zBc p d :: L) :=
  Mem.ex (f := fun x : Nat × Nat × Option Addr × Nat × List (Nat × Nat) => Go.Proofs.YthejaanobeonnaaGreatDoor.also (Go.Proofs.YthejaanobeonnaaGreatDoor.stars (zC7 p d x.1 x.2.1 x.2.2.1 x.2.2.2.1 x.2.2.2.2)) d.ok) (mn, mk, sa, sc, ptr) (Mem.also ho hs.stars)
theorem Dk.okB.ptrOf (ho : d.okB) (hs : Mem g w L) (k : Nat) (hk : L[k]? = some (famC fiC ptr d.fs)) {i : Nat} (hi : i ∈ zAl d.fs) : ∃ b, zAw ptr i = some b ∧ fptr ptr i = .pointer (some ⟨b, 0, none⟩) ∧ zAw d.fs i = some (d.fl i) := by
  have h1 := hs.famKeys k hk; obtain ⟨b, hb⟩ := zD7 (h1 ▸ hi : i ∈ zAl ptr); exact ⟨b, hb, zFs hb, ho.fl_some hi⟩
theorem Mem.flCells (hs : Mem g w L) (k : Nat) (hk : L[k]? = some (famC fiC ptr d.fs)) {i b : Nat} {f : Fl} (hb : zAw ptr i = some b) (hf : zAw d.fs i = some f) : ∃ a c, w.cell? ⟨b, 0, none⟩ = some (.int .i64 f.id) ∧ w.cell? ⟨b, 1, none⟩ = some (.slice a f.b.length c) ∧ w.cell? ⟨b, 2, none⟩ = some (.int .i64 f.syn) := by
  have h1 := hs.famTake k hk hb hf; obtain ⟨a, c, h2⟩ := h1.openF; exact ⟨a, c, h2.cellAt 0 rfl (o := 0) rfl, h2.cellAt 0 rfl (o := 1) rfl, h2.cellAt 0 rfl (o := 2) rfl⟩
end
section
open Go.RowKit
attribute [local irreducible] zAh
variable {g w : World} {L M : List HP} {ad : Nat → Addr} {p mn mk sc : Nat} {sa : Option Addr} {d : Dk} {ptr : List (Nat × Nat)}
def zF9 : List Nat := [105, 106, 107, 108, 109, 110]
abbrev ErrK (ad : Nat → Addr) (g : World) : Prop := Errs zF9 ad g.heap.size g
theorem Dk.empty_ok {r : Nat} (h : r ≤ 4194304) : (Dk.empty r).ok := by
  refine ⟨⟨h, ⟨by simp [Dk.empty, zAl], fun i hi => by simp [Dk.empty, zAl] at hi⟩, fun i f hf => (by cases hf), by simp [Dk.empty, zAl], by simp [Dk.empty, zAl], fun x hx => (by simp [Dk.empty] at hx), fun x hx => (by simp [Dk.empty] at hx), fun x hx => (by simp [Dk.empty] at hx)⟩, Nat.le_refl _, Nat.le_refl _, Nat.le_refl _, by simp [Dk.empty]⟩
theorem rows_nil (w : World) : (zEy 3 (.slice none 0 0) []).ok (fun _ => False) w := rowK_nil 3 w
theorem newd_sl (hs : Mem g w L) {r : Nat} (h1 : 1 ≤ r) (h2 : r ≤ 4194304) : Calls Tryz.prog 10 #[.int .i64 r] w (Ret fun v w' => ∃ p, v = .tuple #[.pointer (some ⟨p, 0, none⟩), .nilIface] ∧ Mem g w' (zBc p (Dk.empty r) :: L)) := by
  refine zAf Tryz.func10 rfl rfl ?_
  skip
  refine zA3 (zA1 ?_); refine zA rfl (zA0 (v := .pointer none) rfl) ?_; refine zA rfl (zA0 (v := .nilIface) rfl) ?_; refine zA6 ?_; refine zA3 ?_; refine zA3 (zA1 ?_); refine zA rfl (zA2 (v := .int .i64 _) rfl) ?_; refine zA rfl (zB9 rfl rfl) ?_; refine zA rfl (zA2 (v := .bool _) rfl) ?_; refine zAi rfl rfl (decide_eq_false (by omega)) ?_; refine zA rfl (zA2 (v := .int .i64 _) rfl) ?_; refine zAi rfl rfl (decide_eq_false (by omega)) ?_; refine zA rfl (zBl rfl rfl) ?_; refine zA rfl (zAg (v := .bool _) rfl (decide_eq_false (by omega)) rfl) ?_; refine zA6 ?_; refine zB4 rfl (decide_eq_false (by omega)) ?_; refine zAd ?_; refine zA3 (zA1 ?_); refine zA rfl (zA2 (v := .int .i64 _) rfl) ?_
  refine zF5 Value.string hs rfl ?_; clear hs; intro m12 w hs
  try simp only [zzs, zzz] at hs
  refine zF5 Value.string hs rfl ?_; clear hs; intro m13 w hs
  try simp only [zzs, zzz] at hs
  refine zA rfl (zBs (cs := [.int .i64 r, .map (some m12), .map (some m13), .slice none 0 0, .int .i64 0, .int .i64 0, .bool false, .int .i64 0]) uz88 ze88 pl88 rfl) ?_; refine zBh (v := .agg _) hs rfl rfl ?_; clear hs; intro b15 w hs; refine zA rfl (zA0 (v := .pointer (some _)) rfl) ?_; refine zA rfl (zA0 (v := .nilIface) rfl) ?_; refine zA6 ?_; refine zAc ?_; refine zDz (v := .pointer (some _)) (v2 := .nilIface) rfl rfl rfl ?_; refine ⟨_, rfl, b15, rfl, Mem.closeD (mn := m12) (mk := m13) (sa := none) (sc := 0) (ptr := []) (Dk.empty_ok h2) ?_⟩; exact ((hs.addE (rows_nil _)).addE (famC_nil (R := fiC) _)).arr [2, 4, 3, 1, 0] 5 (by decide)
theorem begin_sl (hE : ErrK ad g) (ho : d.ok) (hs : Mem g w (zC7 p d mn mk sa sc ptr ++ L)) : Calls Tryz.prog 119 #[.pointer (some ⟨p, 0, none⟩)] w (Ret fun v w' => v = zAh ad d.begin.1 ∧ Mem g w' (zC7 p d.begin.2 mn mk sa sc ptr ++ L)) := by
  have hal := ho.al; refine zAf Tryz.func119 rfl rfl ?_
  skip
  refine zA3 (zA1 ?_); refine zA rfl (zA0 (v := .nilIface) rfl) ?_; refine zA6 ?_; refine zA3 ?_; refine zA3 (zA1 ?_); refine zA rfl (zA2 (v := .pointer (some _)) rfl) ?_; refine zA rfl (zA8 rfl) ?_; refine zA rfl (zA4 (o' := 6) uz88 rfl sz4 rfl rfl rfl) ?_; refine zA rfl (zA7 uz4 rfl rfl (hs.cellAt 0 rfl rfl)) ?_; refine zA6 ?_; refine zB rfl ?_ ?_
  ·
   intro h6; refine zA3 (zA1 ?_); refine zA rfl (zA7 zCe rfl rfl (hE.cellW hs 110 (by decide) rfl)) ?_; refine zA rfl (zA0 (v := zAh ad _) rfl) ?_; refine zA6 ?_; refine zAc ?_; refine zBd (v := zAh ad _) rfl rfl ?_
   have e : d.begin = (110, d) := by simp [Dk.begin, h6]
   rw [e]; exact ⟨_, rfl, rfl, hs⟩
  ·
   intro h6; refine zAd ?_; refine zA3 ?_; refine zA3 (zA1 ?_); refine zA rfl (zA2 (v := .pointer (some _)) rfl) ?_; refine zA rfl (zA8 rfl) ?_; refine zA rfl (zA4 (o' := 5) uz88 rfl sz3 rfl rfl rfl) ?_; refine zA rfl (zA7 uz3 rfl rfl (hs.cellAt 0 rfl rfl)) ?_; refine zA rfl (zBl rfl rfl) ?_; refine zA6 ?_; refine zB rfl ?_ ?_
   ·
    intro h12; have g12 := of_decide_eq_true h12; refine zA3 (zA1 ?_); refine zA rfl (zA2 (v := .pointer (some _)) rfl) ?_; refine zA rfl (zA8 rfl) ?_; refine zA rfl (zA4 (o' := 5) uz88 rfl sz3 rfl rfl rfl) ?_; refine zA rfl (zA7 uz3 rfl rfl (hs.cellAt 0 rfl rfl)) ?_; refine zA rfl (zC8 rfl rfl (c := ((d.armed - 1 : Nat) : Int)) (by omega) (inI (by omega) (by omega))) ?_; refine zA rfl (zA8 rfl) ?_; refine zA rfl (zA4 (o' := 5) uz88 rfl sz3 rfl rfl rfl) ?_; refine zB5 (v := .int .i64 _) hs 0 rfl sz3 rfl rfl rfl rfl ?_; clear hs; intro w hs
    try simp only [zzs, zzz] at hs
    refine zA6 (zA3 (zA1 ?_)); refine zA rfl (zA2 (v := .pointer (some _)) rfl) ?_; refine zA rfl (zA8 rfl) ?_; refine zA rfl (zA4 (o' := 5) uz88 rfl sz3 rfl rfl rfl) ?_; refine zA rfl (zA7 uz3 rfl rfl (hs.cellAt 0 rfl rfl)) ?_; refine zA rfl (zBo rfl rfl) ?_; refine zA6 ?_; refine zB rfl ?_ ?_
    ·
     intro h24; have g24 := of_decide_eq_true h24; refine zA3 (zA1 ?_); refine zA rfl (zA2 (v := .pointer (some _)) rfl) ?_; refine zA rfl (zA8 rfl) ?_; refine zA rfl (zA4 (o' := 6) uz88 rfl sz4 rfl rfl rfl) ?_; refine zB5 (v := .bool _) hs 0 rfl sz4 rfl rfl rfl rfl ?_; clear hs; intro w hs
     try simp only [zzs, zzz] at hs
     refine zA6 (zA3 (zA1 ?_)); refine zA rfl (zA7 zCe rfl rfl (hE.cellW hs 110 (by decide) rfl)) ?_; refine zA rfl (zA0 (v := zAh ad _) rfl) ?_; refine zA6 ?_; refine zAc ?_; refine zBd (v := zAh ad _) rfl rfl ?_
     have e : d.begin = (110, { d with armed := 0, down := true }) := by simp [Dk.begin, h6, show ¬ d.armed = 0 by omega, show d.armed = 1 by omega]
     rw [show d.armed - 1 = 0 by omega] at hs; rw [e]; exact ⟨_, rfl, rfl, hs⟩
    ·
     intro h24; have g24 := of_decide_eq_false h24; refine zAd ?_; refine zA3 (zA1 ?_); refine zA rfl (zA0 (v := .nilIface) rfl) ?_; refine zA6 ?_; refine zAc ?_; refine zBd (v := .nilIface) rfl rfl ?_
     have e : d.begin = (0, { d with armed := d.armed - 1 }) := by simp [Dk.begin, h6, show ¬ d.armed = 0 by omega, show ¬ d.armed = 1 by omega]
     rw [e]; exact ⟨_, rfl, (zAz ad).symm, hs⟩
   ·
    intro h12; have g12 := of_decide_eq_false h12; refine zAd ?_; refine zA3 (zA1 ?_); refine zA rfl (zA0 (v := .nilIface) rfl) ?_; refine zA6 ?_; refine zAc ?_; refine zBd (v := .nilIface) rfl rfl ?_
    have e : d.begin = (0, d) := by simp [Dk.begin, h6, show d.armed = 0 by omega]
    rw [e]; exact ⟨_, rfl, (zAz ad).symm, hs⟩
def FileRet (g : World) (ad : Nat → Addr) (L : List HP) (p mn mk : Nat) (sa : Option Addr) (sc : Nat) (ptr : List (Nat × Nat)) (d : Dk) (r : Nat × Option Nat) (v : Value) (w' : World) : Prop :=
  (∃ c, c ∈ zF9 ∧ c ≠ 0 ∧ r = (c, none) ∧ v = .tuple #[.pointer none, zAh ad c] ∧ Mem g w' (zC7 p d mn mk sa sc ptr ++ L)) ∨
  (∃ i b, r = (0, some i) ∧ i ∈ zAl d.fs ∧ zAw ptr i = some b ∧ zAw d.fs i = some (d.fl i) ∧ v = .tuple #[.pointer (some ⟨b, 0, none⟩), .nilIface] ∧ Mem g w' (zC7 p d mn mk sa sc ptr ++ L))
theorem file_sl (hE : ErrK ad g) (ho : d.ok) (n : ByteArray) (hs : Mem g w (zC7 p d mn mk sa sc ptr ++ L)) : Calls Tryz.prog 118 #[.pointer (some ⟨p, 0, none⟩), .string n] w (Ret (FileRet g ad L p mn mk sa sc ptr d (d.file n))) := by
  cases hd : d.down with
  | true =>
    refine zAf Tryz.func118 rfl rfl ?_
    skip
    refine zA3 (zA1 ?_); refine zA rfl (zA0 (v := .pointer none) rfl) ?_; refine zA rfl (zA0 (v := .nilIface) rfl) ?_; refine zA6 ?_; refine zA3 ?_; refine zA3 (zA1 ?_); refine zA rfl (zA2 (v := .pointer (some _)) rfl) ?_; refine zA rfl (zA8 rfl) ?_; refine zA rfl (zA4 (o' := 6) uz88 rfl sz4 rfl rfl rfl) ?_; refine zA rfl (zA7 uz4 rfl rfl (hs.cellAt 0 rfl rfl)) ?_; refine zA6 ?_; refine zB6 rfl (hd) ?_; refine zA3 ?_; refine zAp zBk hs ?_; intro w tr hK; replace hs := tr _ hs; clear tr; refine zA5 0 rfl rfl (fun w hs => zA7 zCe rfl rfl (hE.cellW hs 110 (by decide) rfl)) hK ?_; refine zA5 1 rfl rfl (fun w hs => zA0 (v := .pointer none) rfl) hK ?_
    refine zA5 2 rfl rfl (fun w hs => zA0 (v := zAh ad _) rfl) hK ?_; refine zAr (by kernel_rfl) ?_; clear hK; refine zAc ?_; refine zDz (v := .pointer none) (v2 := zAh ad _) rfl rfl rfl ?_; exact ⟨_, rfl, .inl ⟨110, by decide, by decide, by simp [Dk.file, hd], rfl, hs⟩⟩
  | false =>
    cases hn : zAw d.names n with
    | none =>
      refine zAf Tryz.func118 rfl rfl ?_
      skip
      refine zA3 (zA1 ?_); refine zA rfl (zA0 (v := .pointer none) rfl) ?_; refine zA rfl (zA0 (v := .nilIface) rfl) ?_; refine zA6 ?_; refine zA3 ?_; refine zA3 (zA1 ?_); refine zA rfl (zA2 (v := .pointer (some _)) rfl) ?_; refine zA rfl (zA8 rfl) ?_; refine zA rfl (zA4 (o' := 6) uz88 rfl sz4 rfl rfl rfl) ?_; refine zA rfl (zA7 uz4 rfl rfl (hs.cellAt 0 rfl rfl)) ?_; refine zA6 ?_; refine zB4 rfl (hd) ?_; refine zAd ?_; refine zA3 (zA1 ?_); refine zA rfl (zA2 (v := .pointer (some _)) rfl) ?_; refine zA rfl (zA8 rfl) ?_; refine zA rfl (zA4 (o' := 1) uz88 rfl sz85 rfl rfl rfl) ?_; refine zA rfl (zA7 uz85 rfl rfl (hs.cellAt 0 rfl rfl)) ?_; refine zA rfl (zA2 (v := .string _) rfl) ?_
      refine zA rfl (zDg (hs.mapAt 1 rfl) zEa uz85 uz9 ze146 rfl rfl (o := none) (by rw [nmV_get, hn]; rfl)) ?_; refine zA rfl (zA0 (v := .pointer none) rfl) ?_; refine zA6 ?_; refine zA3 ?_; refine zA3 (zA1 ?_); refine zA rfl (zA2 (v := .pointer none) rfl) ?_; refine zA rfl (zD9 uz146 rfl rfl) ?_; refine zA6 ?_; refine zB6 rfl (rfl) ?_; refine zA3 ?_; refine zAp zBk hs ?_; intro w tr hK; replace hs := tr _ hs; clear tr; refine zA5 0 rfl rfl (fun w hs => zA7 zCe rfl rfl (hE.cellW hs 107 (by decide) rfl)) hK ?_; refine zA5 1 rfl rfl (fun w hs => zA0 (v := .pointer none) rfl) hK ?_; refine zA5 2 rfl rfl (fun w hs => zA0 (v := zAh ad _) rfl) hK ?_; refine zAr (by kernel_rfl) ?_; clear hK
      refine zAc ?_; refine zDz (v := .pointer none) (v2 := zAh ad _) rfl rfl rfl ?_; exact ⟨_, rfl, .inl ⟨107, by decide, by decide, by simp [Dk.file, hd, hn], rfl, hs⟩⟩
    | some i =>
      obtain ⟨b, hb, hp, hf⟩ := ho.ptrOf hs 4 rfl (ho.named hn); refine zAf Tryz.func118 rfl rfl ?_
      skip
      refine zA3 (zA1 ?_); refine zA rfl (zA0 (v := .pointer none) rfl) ?_; refine zA rfl (zA0 (v := .nilIface) rfl) ?_; refine zA6 ?_; refine zA3 ?_; refine zA3 (zA1 ?_); refine zA rfl (zA2 (v := .pointer (some _)) rfl) ?_; refine zA rfl (zA8 rfl) ?_; refine zA rfl (zA4 (o' := 6) uz88 rfl sz4 rfl rfl rfl) ?_; refine zA rfl (zA7 uz4 rfl rfl (hs.cellAt 0 rfl rfl)) ?_; refine zA6 ?_; refine zB4 rfl (hd) ?_; refine zAd ?_; refine zA3 (zA1 ?_); refine zA rfl (zA2 (v := .pointer (some _)) rfl) ?_; refine zA rfl (zA8 rfl) ?_; refine zA rfl (zA4 (o' := 1) uz88 rfl sz85 rfl rfl rfl) ?_; refine zA rfl (zA7 uz85 rfl rfl (hs.cellAt 0 rfl rfl)) ?_; refine zA rfl (zA2 (v := .string _) rfl) ?_
      refine zA rfl (zDg (hs.mapAt 1 rfl) zEa uz85 uz9 ze146 rfl rfl (o := some (.pointer (some ⟨b, 0, none⟩))) (by rw [nmV_get, hn, Option.map_some, hp])) ?_; refine zA rfl (zA0 (v := .pointer (some _)) rfl) ?_; refine zA6 ?_; refine zA3 ?_; refine zA3 (zA1 ?_); refine zA rfl (zA2 (v := .pointer (some _)) rfl) ?_; refine zA rfl (zD9 uz146 rfl rfl) ?_; refine zA6 ?_; refine zB4 rfl rfl ?_; refine zAd ?_; refine zA3 (zA1 ?_); refine zA rfl (zA2 (v := .pointer (some _)) rfl) ?_; refine zA rfl (zA0 (v := .pointer (some _)) rfl) ?_; refine zA rfl (zA0 (v := .nilIface) rfl) ?_; refine zA6 ?_; refine zAc ?_; refine zDz (v := .pointer (some _)) (v2 := .nilIface) rfl rfl rfl ?_
      exact ⟨_, rfl, .inr ⟨i, b, by simp [Dk.file, hd, hn], ho.named hn, hb, hf, rfl, hs⟩⟩
theorem find_sl (hE : ErrK ad g) (ho : d.ok) (n : ByteArray) (hs : Mem g w (zC7 p d mn mk sa sc ptr ++ L)) {c0 : Nat} {o : Option Nat} {d1 : Dk} (hf : d.find n = (c0, o, d1)) : Calls Tryz.prog 138 #[.pointer (some ⟨p, 0, none⟩), .string n] w (Ret (FileRet g ad L p mn mk sa sc ptr d1 (c0, o))) := by
  obtain rfl := Dk.find_dk hf; have hc := d.begin_code; refine zAf Tryz.func138 rfl rfl ?_
  skip
  refine zA3 (zA1 ?_); refine zA rfl (zA0 (v := .pointer none) rfl) ?_; refine zA rfl (zA0 (v := .nilIface) rfl) ?_; refine zA6 ?_; refine zA3 ?_; refine zA3 (zA1 ?_); refine zA rfl (zA2 (v := .pointer (some _)) rfl) ?_; refine zAb rfl en119 (begin_sl hE ho hs) ?_; clear hs; rintro _ w ⟨rfl, hs⟩; refine zA rfl (zA0 (v := zAh ad _) rfl) ?_; refine zA6 (zA3 (zA1 ?_)); refine zA rfl (zA2 (v := zAh ad _) rfl) ?_; refine zA rfl (zAx (ad := ad) rfl) ?_; refine zA6 ?_; refine zB rfl ?_ ?_
  ·
   intro h10; have g10 := zEt h10; refine zA3 (zA1 ?_); refine zA rfl (zA2 (v := zAh ad _) rfl) ?_; refine zA rfl (zA0 (v := .pointer none) rfl) ?_; refine zA rfl (zA0 (v := zAh ad _) rfl) ?_; refine zA6 ?_; refine zAc ?_; refine zDz (v := .pointer none) (v2 := zAh ad _) rfl rfl rfl ?_
   have hb : d.begin.1 = 110 := by simp at h10; omega
   rw [hb]; refine ⟨_, rfl, .inl ⟨110, by decide, by decide, ?_, rfl, hs⟩⟩
   simp [Dk.find, hb] at hf
   simp [← hf.1, ← hf.2]
  ·
   intro h10; have g10 := zEs h10; refine zAd ?_; refine zA3 (zA1 ?_); refine zA rfl (zA2 (v := .pointer (some _)) rfl) ?_; refine zA rfl (zA2 (v := .string _) rfl) ?_; refine zAb rfl en118 (file_sl hE ho.begin n hs) ?_; clear hs; rintro _ w ((⟨c14, hc14, h014, hr14, rfl, hs⟩) | (⟨i14, b14, hr14, hk14, hb14, hf14, rfl, hs⟩))
   ·
    refine zA rfl (zAa (v := .pointer none) rfl rfl) ?_; refine zA rfl (zAa (v := zAh ad _) rfl rfl) ?_; refine zA rfl (zA0 (v := .pointer none) rfl) ?_; refine zA rfl (zA0 (v := zAh ad _) rfl) ?_; refine zA6 ?_; refine zAc ?_; refine zDz (v := .pointer none) (v2 := zAh ad _) rfl rfl rfl ?_
    have hb : d.begin.1 = 0 := by simpa using h10
    simp only [Dk.find, hb, if_true, Prod.mk.injEq] at hf; exact ⟨_, rfl, .inl ⟨c14, hc14, h014, by rw [← hf.1, ← hf.2.1]; exact hr14, rfl, hs⟩⟩
   ·
    refine zA rfl (zAa (v := .pointer (some _)) rfl rfl) ?_; refine zA rfl (zAa (v := .nilIface) rfl rfl) ?_; refine zA rfl (zA0 (v := .pointer (some _)) rfl) ?_; refine zA rfl (zA0 (v := .nilIface) rfl) ?_; refine zA6 ?_; refine zAc ?_; refine zDz (v := .pointer (some _)) (v2 := .nilIface) rfl rfl rfl ?_
    have hb : d.begin.1 = 0 := by simpa using h10
    simp only [Dk.find, hb, if_true, Prod.mk.injEq] at hf; exact ⟨_, rfl, .inr ⟨i14, b14, by rw [← hf.1, ← hf.2.1]; exact hr14, hk14, hb14, hf14, rfl, hs⟩⟩
theorem dapply_sl {m : Nat} {l : List (ByteArray × Nat)} (hs : Mem g w (mapS m (nmV ptr l) :: L)) (c : Chg) (hp : ∀ i, c.f = some i → ∃ b, zAw ptr i = some b) {row : List Value} (hrow : chgV ptr c = row) : Calls Tryz.prog 69 #[.map (some m), .agg row.toArray] w (Ret fun v w' => v = .tuple #[] ∧ Mem g w' (mapS m (nmV ptr (c.app l)) :: L)) := by
  subst hrow; obtain ⟨nm, gn, f⟩ := c
  cases f with
  | none =>
    simp only [chgV]; refine zAf Tryz.func69 rfl rfl ?_
    skip
    refine zA3 (zA1 ?_); refine zBh (v := .agg _) hs rfl rfl ?_; clear hs; intro b3 w hs; refine zA6 ?_; refine zA3 ?_; refine zA3 (zA1 ?_); refine zA rfl (zA4 (o' := 1) zG rfl sz9 rfl rfl rfl) ?_; refine zA rfl (zA7 uz9 rfl rfl (hs.cellAt 0 rfl rfl)) ?_; refine zA rfl (run_nes rfl rfl) ?_; refine zA6 ?_; refine zB rfl ?_ ?_
    ·
     intro h6; have g6 := zEt h6; refine zA1 ?_; refine zA rfl (zA2 (v := .map _) rfl) ?_; refine zA rfl (zA4 (o' := 1) zG rfl sz9 rfl rfl rfl) ?_; refine zA rfl (zA7 uz9 rfl rfl (hs.cellAt 0 rfl rfl)) ?_; refine lw_delete hs rfl 1 rfl zEa uz85 uz9 rfl rfl ?_; clear hs; intro w hs
     try simp only [zzs, zzz] at hs
     refine zA6 (zA3 (zA1 ?_)); refine zA rfl (zA4 (o' := 2) zG rfl sz146 rfl rfl rfl) ?_; refine zA rfl (zA7 uz146 rfl rfl (hs.cellAt 0 rfl rfl)) ?_; refine zA rfl (run_nepn uz146 rfl rfl) ?_; refine zA6 ?_; refine zB4 rfl (rfl) ?_; refine zAd ?_; refine res0  rfl ?_; exact ⟨_, rfl, rfl, by have h1 := hs.tail; rw [← nmV_del] at h1; simp only [Chg.app]; rw [if_neg (show gn ≠ ByteArray.empty from g6)]; exact h1⟩
    ·
     intro h6; have g6 := zEs h6; refine zAd ?_; refine zA3 (zA1 ?_); refine zA rfl (zA4 (o' := 2) zG rfl sz146 rfl rfl rfl) ?_; refine zA rfl (zA7 uz146 rfl rfl (hs.cellAt 0 rfl rfl)) ?_; refine zA rfl (run_nepn uz146 rfl rfl) ?_; refine zA6 ?_; refine zB4 rfl (rfl) ?_; refine zAd ?_; refine res0  rfl ?_; exact ⟨_, rfl, rfl, by have h1 := hs.tail; simp only [Chg.app]; rw [if_pos (show gn = ByteArray.empty from g6)]; exact h1⟩
  | some i =>
    obtain ⟨b, hb⟩ := hp i rfl; simp only [chgV, zFs hb]; refine zAf Tryz.func69 rfl rfl ?_
    skip
    refine zA3 (zA1 ?_); refine zBh (v := .agg _) hs rfl rfl ?_; clear hs; intro b3 w hs; refine zA6 ?_; refine zA3 ?_; refine zA3 (zA1 ?_); refine zA rfl (zA4 (o' := 1) zG rfl sz9 rfl rfl rfl) ?_; refine zA rfl (zA7 uz9 rfl rfl (hs.cellAt 0 rfl rfl)) ?_; refine zA rfl (run_nes rfl rfl) ?_; refine zA6 ?_; refine zB rfl ?_ ?_
    ·
     intro h6; have g6 := zEt h6; refine zA1 ?_; refine zA rfl (zA2 (v := .map _) rfl) ?_; refine zA rfl (zA4 (o' := 1) zG rfl sz9 rfl rfl rfl) ?_; refine zA rfl (zA7 uz9 rfl rfl (hs.cellAt 0 rfl rfl)) ?_; refine lw_delete hs rfl 1 rfl zEa uz85 uz9 rfl rfl ?_; clear hs; intro w hs
     try simp only [zzs, zzz] at hs
     refine zA6 (zA3 (zA1 ?_)); refine zA rfl (zA4 (o' := 2) zG rfl sz146 rfl rfl rfl) ?_; refine zA rfl (zA7 uz146 rfl rfl (hs.cellAt 0 rfl rfl)) ?_; refine zA rfl (run_nepn uz146 rfl rfl) ?_; refine zA6 ?_; refine zB6 rfl rfl ?_; refine zA1 ?_; refine zA rfl (zA2 (v := .map _) rfl) ?_; refine zA rfl (zA4 (o' := 0) zG rfl sz9 rfl rfl rfl) ?_; refine zA rfl (zA7 uz9 rfl rfl (hs.cellAt 0 rfl rfl)) ?_; refine zA rfl (zA4 (o' := 2) zG rfl sz146 rfl rfl rfl) ?_; refine zA rfl (zA7 uz146 rfl rfl (hs.cellAt 0 rfl rfl)) ?_; refine zD4 (v := .pointer (some _)) hs 1 rfl zEa uz85 uz9 rfl rfl rfl ?_; clear hs; intro w hs
     try simp only [zzs, zzz] at hs
     refine zA6 ?_; refine res0  rfl ?_; exact ⟨_, rfl, rfl, by have h1 := hs.tail; rw [← nmV_del, ← zFs hb, ← nmV_put] at h1; simp only [Chg.app]; rw [if_neg (show gn ≠ ByteArray.empty from g6)]; exact h1⟩
    ·
     intro h6; have g6 := zEs h6; refine zAd ?_; refine zA3 (zA1 ?_); refine zA rfl (zA4 (o' := 2) zG rfl sz146 rfl rfl rfl) ?_; refine zA rfl (zA7 uz146 rfl rfl (hs.cellAt 0 rfl rfl)) ?_; refine zA rfl (run_nepn uz146 rfl rfl) ?_; refine zA6 ?_; refine zB6 rfl rfl ?_; refine zA1 ?_; refine zA rfl (zA2 (v := .map _) rfl) ?_; refine zA rfl (zA4 (o' := 0) zG rfl sz9 rfl rfl rfl) ?_; refine zA rfl (zA7 uz9 rfl rfl (hs.cellAt 0 rfl rfl)) ?_; refine zA rfl (zA4 (o' := 2) zG rfl sz146 rfl rfl rfl) ?_; refine zA rfl (zA7 uz146 rfl rfl (hs.cellAt 0 rfl rfl)) ?_; refine zD4 (v := .pointer (some _)) hs 1 rfl zEa uz85 uz9 rfl rfl rfl ?_; clear hs; intro w hs
     try simp only [zzs, zzz] at hs
     refine zA6 ?_; refine res0  rfl ?_; exact ⟨_, rfl, rfl, by have h1 := hs.tail; rw [← zFs hb, ← nmV_put] at h1; simp only [Chg.app]; rw [if_pos (show gn = ByteArray.empty from g6)]; exact h1⟩
theorem zsC : (Tryz.prog.info? 148).map (fun i => (i.zero, i.size)) = some (some (.agg #[.string ByteArray.empty, .string ByteArray.empty, .pointer none]), 3) := by
  have h := in148; obtain ⟨i, h1, h2⟩ := Option.map_eq_some_iff.1 h; simp only [Prod.mk.injEq] at h2; rw [h1, Option.map_some, h2.1, h2.2.1]
theorem row_form {ptr : List (Nat × Nat)} {c : Chg} (hp : ∀ i, c.f = some i → ∃ b, zAw ptr i = some b) : ∃ P, chgV ptr c = [.string c.name, .string c.gone, P] ∧ P.oneCell' = true := by
  unfold chgV
  cases hf : c.f with
  | none => exact ⟨_, rfl, rfl⟩
  | some i => obtain ⟨b, hb⟩ := hp i hf; exact ⟨_, rfl, by simp [fptr, hb, Value.oneCell']⟩
theorem change_sl (hc : d.calls < 1000000000) (hn : d.changes.length < 1000000000) (hs : Mem g w (zC7 p d mn mk sa sc ptr ++ L)) (c : Chg) (hp : ∀ i, c.f = some i → ∃ b, zAw ptr i = some b) {row : List Value} (hrow : chgV ptr c = row) : Calls Tryz.prog 120 #[.pointer (some ⟨p, 0, none⟩), .agg row.toArray] w (Ret fun v w' => v = .tuple #[] ∧ ∃ sa' sc', Mem g w' (zC7 p (d.change c) mn mk sa' sc' ptr ++ L)) := by
  subst hrow; obtain ⟨P, hrow, hP⟩ := row_form hp; rw [hrow]; refine zAf Tryz.func120 rfl rfl ?_
  skip
  refine zA3 (zA1 ?_); refine zBh (v := .agg _) hs rfl rfl ?_; clear hs; intro b3 w hs; refine zA6 ?_; refine zA3 ?_; refine zAp zBk (hs.drop 2) ?_; intro w tr hK; replace hs := tr _ hs; clear tr; refine zA5 0 rfl rfl (fun w hs => zA2 (v := .pointer (some _)) rfl) hK ?_; refine zA5 1 rfl rfl (fun w hs => zA8 rfl) hK ?_; refine zA5 2 rfl rfl (fun w hs => zA4 (o' := 1) uz88 rfl sz85 rfl rfl rfl) hK ?_; refine zA5 3 rfl rfl (fun w hs => zA7 uz85 rfl rfl (hs.cellAt 1 rfl rfl)) hK ?_; refine zA5 4 rfl rfl (fun w hs => zBa hs 0 rfl zG sz148 rfl) hK ?_; refine zAe [5] ?_; refine ⟨⟨_, rfl, ?_⟩, trivial⟩; refine zAb rfl en69 (dapply_sl (hs.arr [2, 0, 1, 3, 4, 5] 6 (by decide)) c hp hrow) ?_
  clear hs; rintro _ w ⟨rfl, hs⟩; clear hK; have hK := hs.tail; refine zA6 ⟨hK, ?_⟩; refine zAr (by kernel_rfl) ?_; clear hK; refine zA3 ?_; refine zAp zBk ((hs.drop 4).drop 2) ?_; intro w tr hK; replace hs := tr _ hs; clear tr; refine zA5 0 rfl rfl (fun w hs => zA2 (v := .pointer (some _)) rfl) hK ?_; refine zA5 1 rfl rfl (fun w hs => zA2 (v := .pointer (some _)) rfl) hK ?_; refine zA5 2 rfl rfl (fun w hs => zA8 rfl) hK ?_; refine zA5 3 rfl rfl (fun w hs => zA4 (o' := 3) uz88 rfl sz86 rfl rfl rfl) hK ?_; refine zA5 5 rfl rfl (fun w hs => zBa hs 1 rfl zG sz148 rfl) hK ?_; refine zAe [4, 6] ?_; refine ⟨⟨_, rfl, ?_⟩, ⟨_, rfl, ?_⟩, trivial⟩
  refine zA rfl (zA7 uz86 rfl rfl (hs.cellAt 2 rfl rfl)) ?_; clear hK; have hK := (hs.drop 4).drop 2; refine zA6 ⟨hK, ?_⟩; refine zAe [6] ?_; refine ⟨⟨_, rfl, ?_⟩, trivial⟩; refine zDb hs rfl (row := [.string c.name, .string c.gone, P]) uz86 zsC rfl (by simp [Instr.fill, Value.cells, Array.range_succ, show Array.range 0 = #[] from by simp]) (by decide) (by decide) ?_; clear hs; intro b16 w hs
  rotate_left
  refine zDb hs rfl (row := [.string c.name, .string c.gone, P]) uz86 zsC rfl (by simp [Instr.fill, Value.cells, Array.range_succ, show Array.range 0 = #[] from by simp]) (by decide) (by decide) ?_; clear hs; intro b16 w hs; clear hK; have hK := (hs.tail.drop 4).drop 2; refine zA6 ⟨hK, ?_⟩; refine zAe [4] ?_; refine ⟨⟨_, rfl, ?_⟩, trivial⟩; refine zA rfl (zA7 uz86 rfl rfl (hs.cellAt 3 rfl rfl)) ?_
  rotate_left
  all_goals
   clear hK; have hK := (hs.tail.drop 4).drop 2; refine zA6 ⟨hK, ?_⟩; refine zAe [7] ?_; refine ⟨⟨_, rfl, ?_⟩, trivial⟩; refine zCm hs rfl 5 0 rfl rfl uz86 uz86 in148 rfl rfl (by simp only [List.all_cons, List.all_nil, hP]; rfl) rfl rfl (by simp only [List.length_map]; omega) (by simp only [List.length_map]; omega) ?_; clear hs; intro a17 c17 w hs; simp only [zzs, zzz] at hs; clear hK; have hK := (hs.tail.drop 4).drop 2; refine zA6 ⟨hK, ?_⟩; refine zA5 8 rfl rfl (fun w hs => zA8 rfl) hK ?_; refine zA5 9 rfl rfl (fun w hs => zA4 (o' := 3) uz88 rfl sz86 rfl rfl rfl) hK ?_; refine zAe [10] ?_; refine ⟨⟨_, rfl, ?_⟩, trivial⟩
   refine zB5 (v := .slice _ _ _) hs 3 rfl sz86 rfl rfl rfl rfl ?_; clear hs; intro w hs
   try simp only [zzs, zzz] at hs
   clear hK; have hK := (hs.tail.drop 4).drop 2; refine zA6 ⟨hK, ?_⟩; refine zAr (by kernel_rfl) ?_; clear hK; refine zA1 ?_; refine zA rfl (zA2 (v := .pointer (some _)) rfl) ?_; refine zA rfl (zA8 rfl) ?_; refine zA rfl (zA4 (o' := 7) uz88 rfl sz3 rfl rfl rfl) ?_; refine zA rfl (zA7 uz3 rfl rfl (hs.cellAt 3 rfl rfl)) ?_; refine zA rfl (zAu rfl rfl rfl (inI (by omega) (by omega))) ?_; refine zA rfl (zA8 rfl) ?_; refine zA rfl (zA4 (o' := 7) uz88 rfl sz3 rfl rfl rfl) ?_; refine zB5 (v := .int .i64 _) hs 3 rfl sz3 rfl rfl rfl rfl ?_; clear hs; intro w hs
   try simp only [zzs, zzz] at hs
   refine zA6 ?_; refine res0  rfl ?_; refine ⟨_, rfl, rfl, a17, c17, ?_⟩
   have e1 : (d.change c).changes.length = (d.changes.map (chgV ptr)).length + 1 := by simp [Dk.change]
   have e2 : (d.change c).changes.map (chgV ptr) = d.changes.map (chgV ptr) ++ [[.string c.name, .string c.gone, P]] := by simp [Dk.change, hrow]
   simp only [zC7, diskL, e1, e2]; exact hs.arr [3, 1, 4, 5, 6] 7 (by decide)
end
section
open Go.RowKit
attribute [local irreducible] zAh
variable {g w : World} {L M : List HP} {ad : Nat → Addr}
def zFz : List Nat := [101, 102, 105, 106, 107, 108, 109, 110]
abbrev ErrP (ad : Nat → Addr) (g : World) : Prop := Errs zFz ad g.heap.size g
theorem zF6 {c : Nat} (h : c ∈ zF9) : c ∈ zFz := by
  simp only [zF9, zFz, List.mem_cons, List.not_mem_nil, or_false] at *; omega
theorem Errs.ofPoint {ad : Nat → Addr} {B : Nat} {w : World} (h : Errs zFz ad B w) : Errs zF9 ad B w :=
  ⟨fun c hc => h.pos c (zF6 hc), fun c hc => h.cell c (zF6 hc), fun c hc => h.block c (zF6 hc), fun c hc d hd => h.inj c (zF6 hc) d (zF6 hd), fun c hc => h.lt c (zF6 hc)⟩
def le4 (s : Nat) : List UInt8 := [UInt8.ofNat s, UInt8.ofNat (s / 2 ^ 8), UInt8.ofNat (s / 2 ^ 16), UInt8.ofNat (s / 2 ^ 24)]
def zBx (b : List UInt8) : List UInt8 := b ++ le4 (zBz 0 b)
def openL (b : List UInt8) : Nat × List UInt8 := if b.length < 4 then (101, []) else if zBx (b.take (b.length - 4)) = b then (0, b.take (b.length - 4)) else (102, [])
theorem zCp (b : List UInt8) : (zBx b).length = b.length + 4 := by simp [zBx, le4]
theorem open_seal (b : List UInt8) : openL (zBx b) = (0, b) := by
  have h : (zBx b).take ((zBx b).length - 4) = b := by rw [zCp]; simp [zBx]
  unfold openL
  rw [if_neg (by rw [zCp]; omega), h, if_pos rfl]
theorem cof_sl (hs : Mem g w L) {b : Nat} {T : TypeId} {v : Value} {l : List UInt8} (i : Nat) (hi : L[i]? = some (cells b [v] T)) (hr : Rd g L v (zAm l)) (hlen : l.length ≤ 1073741824) : Calls Tryz.prog 88 #[.slice (some ⟨b, 0, none⟩) 1 1] w (Ret fun v w' => v = .int .u32 (zBz 0 l : Nat) ∧ Mem g w' L) := by
  have h1 : Rd g L (.slice (some ⟨b, 0, none⟩) 1 1) [v] := Rd.cells (n := 1) i hi rfl; exact hs.calls (of_any0 (h1 w hs) (hr w hs) hlen)
theorem seal_sl (hs : Mem g w L) {a : Option Addr} {n c : Nat} {l : List UInt8} (hr : Rd g L (.slice a n c) (zAm l)) (hn : n = l.length) (hlen : l.length ≤ 100000000) : Calls Tryz.prog 137 #[.slice a n c] w (Ret fun v w' => ∃ a' c', v = .slice a' (zBx l).length c' ∧ Mem g w' (own (.slice a' (zBx l).length c') (zAm (zBx l)) :: L)) := by
  subst hn; obtain ⟨s, hS⟩ : ∃ s, zBz 0 l = s := ⟨_, rfl⟩; have hs32 : s < 4294967296 := hS ▸ crcMore_lt (by decide) l; refine zAf Tryz.func137 rfl rfl ?_
  skip
  refine zA3 (zA1 ?_); refine zA rfl (zA0 (v := .slice _ _ _) rfl) ?_; refine zA6 (zA3 (zA1 ?_)); refine zA rfl (zA2 (v := .slice _ _ _) rfl) ?_; refine zB1 hs rfl ([.slice a l.length c]) zG1 zs22 rfl (by simp [Value.cells]) rfl rfl rfl ?_; clear hs; intro b5 w hs
  try simp only [zzs, zzz] at hs
  refine zAb rfl en88 (cof_sl hs 0 rfl hr.cons (by omega)) ?_; clear hs; rintro _ w ⟨rfl, hs⟩; rw [hS]; refine zA rfl (zA0 (v := .int .u32 _) rfl) ?_; refine zA6 (zA3 (zA1 ?_)); refine zA rfl (zA2 (v := .slice _ _ _) rfl) ?_; refine zAb rfl en49 (zCj hs (l := l) hr.cons (by omega)) ?_; clear hs; rintro _ w ⟨a8, c8, rfl, hs⟩; refine zA rfl (zA2 (v := .int .u32 _) rfl) ?_; refine zA rfl (zBm uz64 uz5 rfl (c := (((UInt8.ofNat s).toNat : Nat) : Int)) (wrapB s)) ?_; refine zA rfl (zA2 (v := .int .u32 _) rfl) ?_; refine zA rfl (run_shr rfl rfl (n := 8) (c := ((s / 2 ^ 8 : Nat) : Int)) rfl (by decide) (by omega)) ?_
  refine zA rfl (zBm uz64 uz5 rfl (c := (((UInt8.ofNat (s / 2 ^ 8)).toNat : Nat) : Int)) (wrapB _)) ?_; refine zA rfl (zA2 (v := .int .u32 _) rfl) ?_; refine zA rfl (run_shr rfl rfl (n := 16) (c := ((s / 2 ^ 16 : Nat) : Int)) rfl (by decide) (by omega)) ?_; refine zA rfl (zBm uz64 uz5 rfl (c := (((UInt8.ofNat (s / 2 ^ 16)).toNat : Nat) : Int)) (wrapB _)) ?_; refine zA rfl (zA2 (v := .int .u32 _) rfl) ?_; refine zA rfl (run_shr rfl rfl (n := 24) (c := ((s / 2 ^ 24 : Nat) : Int)) rfl (by decide) (by omega)) ?_; refine zA rfl (zBm uz64 uz5 rfl (c := (((UInt8.ofNat (s / 2 ^ 24)).toNat : Nat) : Int)) (wrapB _)) ?_; refine zB1 hs rfl ((zAm (le4 s))) zCk zs5 rfl (zE2 (zC3 _)) rfl rfl rfl ?_
  clear hs; intro b20 w hs
  try simp only [zzs, zzz] at hs
  refine zD3 hs rfl 1 rfl zCk in5 rfl rfl rfl (zCn (P := Tryz.prog) zCk ((Rd.cells (n := 4) (cs := zAm (le4 s)) 0 rfl rfl).seq hs) (zC3 (le4 s))) (by simp only [zAv, le4, List.length_cons, List.length_nil]; omega) (by simp only [zAv, le4, List.length_cons, List.length_nil]; omega) ?_; clear hs; intro a21 c21 w hs; simp only [zzs, zzz] at hs; refine zA rfl (zA0 (v := .slice _ _ _) rfl) ?_; refine zA6 ?_; refine zAc ?_; refine zBd (v := .slice _ _ _) rfl rfl ?_
  have e : zAm l ++ zAm (le4 s) = zAm (zBx l) := by rw [← zDh, zBx, hS]
  have e2 : (zAm l).length + (zAm (le4 s)).length = (zBx l).length := by rw [zAv, zAv, zCp]; rfl
  rw [e, e2] at hs; exact ⟨_, rfl, a21, c21, by rw [e2], hs.arr [1] 3 (by decide)⟩
theorem equalB_sl (hs : Mem g w L) {a b : Option Addr} {n m c d : Nat} {la lb : List UInt8} (ha : Rd g L (.slice a n c) (zAm la)) (hb : Rd g L (.slice b m d) (zAm lb)) (hn : n = la.length) (hm : m = lb.length) (hlen : la.length ≤ 1073741824) :
    Calls Tryz.prog 173 #[.slice a n c, .slice b m d] w (Ret fun v w' => v = .bool (decide (la = lb)) ∧ Mem g w' L) := by
  subst hn hm; refine zAf Tryz.func173 rfl rfl ?_
  skip
  refine zA3 (zA1 ?_); refine zA rfl (zA0 (v := .bool _) rfl) ?_; refine zA6 ?_; refine zA3 ?_; refine zA3 (zA1 ?_); refine zA rfl (zA2 (v := .slice _ _ _) rfl) ?_; refine zA rfl (zAt zCk rfl) ?_; refine zA rfl (zA2 (v := .slice _ _ _) rfl) ?_; refine zA rfl (zAt zCk rfl) ?_; refine zA rfl (zCf rfl rfl) ?_; refine zA6 ?_; refine zB rfl ?_ ?_
  ·
   intro h10; have g10 := zEt h10; refine zA3 (zA1 ?_); refine zA rfl (zA0 (v := .bool _) rfl) ?_; refine zA6 ?_; refine zAc ?_; refine zBd (v := .bool _) rfl rfl ?_; exact ⟨_, rfl, zD6 (by rw [decide_eq_false (fun e => g10 (by rw [e]))]), hs⟩
  ·
   intro h10; have g10 := zEs h10; refine zAd ?_; refine zA3 ?_; refine zA3 (zA1 ?_); refine zA rfl (zA2 (v := .slice _ _ _) rfl) ?_; refine zA rfl (zAt zCk rfl) ?_; refine zA rfl (zA2 (v := .int .i64 _) rfl) ?_; refine zA6 ?_; refine zAo ?_; refine zBr (X := Nat) [4, 5, 13, 14, 15, 16, 17, 18, 19, 20, 21, 22, 23, 24, 25] (fun k => [(13, .int .i64 (k : Nat))]) (fun k w => k ≤ la.length ∧ la.take k = lb.take k ∧ Mem g w L) (fun k => la.length - k) (0) ?_ ?_ ?_
   · exact ⟨rfl, trivial⟩
   · exact ⟨Nat.zero_le _, rfl, hs⟩
   clear hs; rintro x ξ w hI; obtain ⟨hk, hq, hs⟩ := hI; refine zA3 (zA1 ?_); refine zA rfl (zB9 rfl rfl) ?_; refine zA6 ?_; refine zA3 ?_; refine zB rfl ?_ ?_
   ·
    intro h14; have g14 := of_decide_eq_true h14; obtain ⟨xa, hxa⟩ : ∃ xa, la[x]? = some xa := ⟨la[x]'(by omega), List.getElem?_eq_getElem _⟩; obtain ⟨xb, hxb⟩ : ∃ xb, lb[x]? = some xb := ⟨lb[x]'(by omega), List.getElem?_eq_getElem _⟩; obtain ⟨b1, o1, rfl, _⟩ := ha.cells' hs (by rw [zAv]; omega); obtain ⟨b2, o2, rfl, _⟩ := hb.cells' hs (by rw [zAv]; omega); refine zAd ?_; refine zA3 ?_; refine zAo ?_; refine zA3 (zA1 ?_); refine zA rfl (zA2 (v := .int .i64 _) rfl) ?_; refine zA rfl (zA0 (v := .int .i64 _) rfl) ?_; refine zA6 ?_; refine zA3 ?_; refine zAp zBk hs ?_; intro w tr hK; replace hs := tr _ hs; clear tr; refine zA5 0 rfl rfl (fun w hs => zA2 (v := .slice _ _ _) rfl) hK ?_
    refine zA5 1 rfl rfl (fun w hs => zA2 (v := .int .i64 _) rfl) hK ?_; refine zA5 2 rfl rfl (fun w hs => zBb zCk sz5 rfl rfl rfl (by omega) rfl) hK ?_; refine zA5 3 rfl rfl (fun w hs => zA7 uz5 rfl rfl (ha.cellAt hs (bytesL_at hxa))) hK ?_; refine zA5 4 rfl rfl (fun w hs => zA2 (v := .slice _ _ _) rfl) hK ?_; refine zA5 5 rfl rfl (fun w hs => zA2 (v := .int .i64 _) rfl) hK ?_; refine zA5 6 rfl rfl (fun w hs => zBb zCk sz5 rfl rfl rfl (by omega) rfl) hK ?_; refine zA5 7 rfl rfl (fun w hs => zA7 uz5 rfl rfl (hb.cellAt hs (bytesL_at hxb))) hK ?_; refine zA5 8 rfl rfl (fun w hs => zCf rfl rfl) hK ?_; refine zAr (by kernel_rfl) ?_; clear hK; refine zB rfl ?_ ?_
    ·
     intro h24; have g24 := zEt h24; refine zA3 (zA1 ?_); refine zA rfl (zA0 (v := .bool _) rfl) ?_; refine zA6 ?_; refine zAc ?_; refine zBd (v := .bool _) rfl rfl ?_; exact ⟨_, rfl, zD6 (by rw [decide_eq_false (fun e => by subst e; rw [hxa] at hxb; cases hxb; exact g24 rfl)]), hs⟩
    ·
     intro h24; have g24 := zEs h24; refine zAd ?_; refine zA1 ?_; refine zA rfl (zAu rfl rfl rfl (inI (by omega) (by omega))) ?_; refine zA rfl (zA2 (v := .int .i64 _) rfl) ?_; refine zA6 ?_; exact ⟨x + 1, by omega, ⟨by omega, by rw [List.take_add_one, List.take_add_one, hxa, hxb, hq, u8v_inj g24], hs⟩, ⟨rfl, trivial⟩, by repeat (first | exact Out.mix _ _ _ | refine Out.updo rfl ?_ | refine Out.upd rfl ?_ | refine Out.mixIn rfl ?_)⟩
   ·
    intro h14; have g14 := of_decide_eq_false h14; refine zBp rfl ?_; refine zA3 (zA1 ?_); refine zA rfl (zA0 (v := .bool _) rfl) ?_; refine zA6 ?_; refine zAc ?_; refine zBd (v := .bool _) rfl rfl ?_
    have h1 : x = la.length := by omega
    rw [h1, List.take_of_length_le (Nat.le_refl _), List.take_of_length_le (by omega)] at hq; exact ⟨_, rfl, zD6 (decide_eq_true hq).symm, hs⟩
theorem copen_sl (hE : ErrP ad g) (hs : Mem g w L) {a : Option Addr} {n c : Nat} {l : List UInt8} (hr : Rd g L (.slice a n c) (zAm l)) (hn : n = l.length) (hc : n ≤ c) (hlen : l.length ≤ 100000000) {k : Nat} {b : List UInt8} (hk : openL l = (k, b)) : Calls Tryz.prog 130 #[.slice a n c] w (Ret fun v w' => ∃ a' c', v = .tuple #[.slice a' b.length c', zAh ad k] ∧ Mem g w' (own (.slice a' b.length c') (zAm b) :: L)) := by
  subst hn; refine zAf Tryz.func130 rfl rfl ?_
  skip
  refine zA3 (zA1 ?_); refine zA rfl (zA0 (v := .slice _ _ _) rfl) ?_; refine zA rfl (zA0 (v := .nilIface) rfl) ?_; refine zA6 ?_; refine zA3 ?_; refine zA3 (zA1 ?_); refine zA rfl (zA2 (v := .slice _ _ _) rfl) ?_; refine zA rfl (zAt zCk rfl) ?_; refine zA rfl (zB9 rfl rfl) ?_; refine zA6 ?_; refine zB rfl ?_ ?_
  ·
   intro h7; have g7 := of_decide_eq_true h7
   have e : openL l = (101, []) := by unfold openL; rw [if_pos (by omega)]
   rw [e] at hk
   cases hk
   refine zA3 ?_; refine zAp zBk hs ?_; intro w tr hK; replace hs := tr _ hs; clear tr; refine zA5 0 rfl rfl (fun w hs => zA7 zCe rfl rfl (hE.cellW hs 101 (by decide) rfl)) hK ?_; refine zA5 1 rfl rfl (fun w hs => zA0 (v := .slice _ _ _) rfl) hK ?_; refine zA5 2 rfl rfl (fun w hs => zA0 (v := zAh ad _) rfl) hK ?_; refine zAr (by kernel_rfl) ?_; clear hK; refine zAc ?_; refine zDz (v := .slice _ _ _) (v2 := zAh ad _) rfl rfl rfl ?_; exact ⟨_, rfl, none, 0, rfl, hs.addE (zD8 _)⟩
  ·
   intro h7; have g7 := of_decide_eq_false h7; refine zAd ?_; refine zA3 (zA1 ?_); refine zA rfl (zA2 (v := .slice _ _ _) rfl) ?_; refine zA rfl (zA2 (v := .slice _ _ _) rfl) ?_; refine zA rfl (zAt zCk rfl) ?_; refine zA rfl (zC8 rfl rfl (c := ((l.length - 4 : Nat) : Int)) (by omega) (inI (by omega) (by omega))) ?_; refine zA rfl (run_sliceTo zCk sz5 rfl rfl (hi := l.length - 4) rfl (by omega)) ?_; refine zA rfl (zA0 (v := .slice _ _ _) rfl) ?_; refine zA6 ?_; refine zA3 ?_; refine zA3 (zA1 ?_); refine zA rfl (zA2 (v := .slice _ _ _) rfl) ?_; refine zAb rfl en137 (seal_sl hs (l := (l.take (l.length - 4)).drop 0) (hr.subB (by omega) (by omega)) (by simp) (by simp; omega)) ?_; clear hs
   rintro _ w ⟨a15, c15, rfl, hs⟩; refine zA rfl (zA2 (v := .slice _ _ _) rfl) ?_; refine zAb rfl en173 (equalB_sl hs (la := zBx (l.take (l.length - 4))) (lb := l) (hs.rdOwn 0 rfl) hr.cons rfl rfl (by rw [zCp, List.length_take]; omega)) ?_; clear hs; rintro _ w ⟨rfl, hs⟩; refine zA rfl (zBt rfl) ?_; refine zA6 ?_; refine zB rfl ?_ ?_
   ·
    intro h17; replace h17 := zEu h17; have hne := of_decide_eq_false h17
    have e : openL l = (102, []) := by unfold openL; rw [if_neg (by omega), if_neg hne]
    rw [e] at hk
    cases hk
    refine zA3 ?_; refine zAp zBk hs ?_; intro w tr hK; replace hs := tr _ hs; clear tr; refine zA5 0 rfl rfl (fun w hs => zA7 zCe rfl rfl (hE.cellW hs 102 (by decide) rfl)) hK ?_; refine zA5 1 rfl rfl (fun w hs => zA0 (v := .slice _ _ _) rfl) hK ?_; refine zA5 2 rfl rfl (fun w hs => zA0 (v := zAh ad _) rfl) hK ?_; refine zAr (by kernel_rfl) ?_; clear hK; refine zAc ?_; refine zDz (v := .slice _ _ _) (v2 := zAh ad _) rfl rfl rfl ?_; exact ⟨_, rfl, none, 0, rfl, (hs.tail).addE (zD8 _)⟩
   ·
    intro h17; replace h17 := zE0 h17; have heq := of_decide_eq_true h17
    have e : openL l = (0, l.take (l.length - 4)) := by unfold openL; rw [if_neg (by omega), if_pos heq]
    rw [e] at hk
    cases hk
    refine zAd ?_; refine zA3 (zA1 ?_); refine zA rfl (zA2 (v := .slice _ _ _) rfl) ?_; refine zAb rfl en49 (zCj hs (l := (l.take (l.length - 4)).drop 0) (hr.cons.subB (by omega) (by omega)) (by simp; omega)) ?_; clear hs; rintro _ w ⟨a21, c21, rfl, hs⟩; refine zA rfl (zA0 (v := .slice _ _ _) rfl) ?_; refine zA rfl (zA0 (v := .nilIface) rfl) ?_; refine zA6 ?_; refine zAc ?_; refine zDz (v := .slice _ _ _) (v2 := .nilIface) rfl rfl rfl ?_; rw [zAv] at hs ⊢; exact ⟨_, rfl, a21, c21, by rw [zAz]; rfl, hs.drop 1⟩
end
section
open Go.RowKit
attribute [local irreducible] zAh
variable {g w : World} {L M : List HP} {ad : Nat → Addr} {p : Nat} {V : Vw}
def idB (n : Int) : List UInt8 := zC4 n.toNat
def prB (q : Pr) : List UInt8 := idB q.1 ++ idB q.2
def epB (l : List Pr) : List UInt8 := l.flatMap prB
def oB (o : Ob) : List UInt8 := zC4 o.1.size ++ o.1.data.toList ++ idB o.2.1 ++ zC4 o.2.2
def obB (l : List Ob) : List UInt8 := l.flatMap oB
def hdB (x : Mf) : List UInt8 := idB x.id ++ idB x.base ++ idB x.fin ++ zC4 (zig x.time) ++ zC4 x.eps.length
def mfBody (x : Mf) : List UInt8 := hdB x ++ epB x.eps ++ zC4 x.obs.length ++ obB x.obs
def mfB (x : Mf) : List UInt8 := zBx (mfBody x)
theorem zE3 (n : Nat) : (zC4 n).length ≤ 10 := zFr 10 n
theorem zFf (n : Int) : (idB n).length ≤ 10 := zE3 _
theorem hdB_len (x : Mf) : (hdB x).length ≤ 50 := by
  have h1 := zFf x.id; have h2 := zFf x.base; have h3 := zFf x.fin; have h4 := zE3 (zig x.time); have h5 := zE3 x.eps.length
  simp only [hdB, List.length_append]; omega
theorem prB_len (q : Pr) : (prB q).length ≤ 20 := by
  have h1 := zFf q.1; have h2 := zFf q.2
  simp only [prB, List.length_append]; omega
theorem epB_len : ∀ l : List Pr, (epB l).length ≤ 20 * l.length
  | [] => by simp [epB]
  | q :: l => by
    have h1 := epB_len l; have h2 := prB_len q
    simp only [epB, List.flatMap_cons, List.length_append, List.length_cons] at h1 ⊢
    omega
theorem oB_len {o : Ob} (h : zCv o = 0) : (oB o).length ≤ 94 := by
  have h1 := zE3 o.1.size; have h2 := zFf o.2.1; have h3 := zE3 o.2.2
  have h4 : o.1.data.toList.length ≤ 64 := by
    unfold zCv at h
    split at h
    · cases h
    · rename_i hv
      have hv : zBq o.1.data.toList = true := by simpa using hv
      simp only [zBq, Bool.and_eq_true, decide_eq_true_eq] at hv
      omega
  simp only [oB, List.length_append]; omega
theorem obB_len : ∀ l : List Ob, (∀ o ∈ l, zCv o = 0) → (obB l).length ≤ 94 * l.length
  | [], _ => by simp [obB]
  | o :: l, h => by
    have h1 := obB_len l fun x hx => h x (List.mem_cons_of_mem _ hx); have h2 := oB_len (h o (List.mem_cons_self ..))
    simp only [obB, List.flatMap_cons, List.length_append, List.length_cons] at h1 ⊢
    omega
theorem epB_next {l : List Pr} {k : Nat} {q : Pr} (h : l[k]? = some q) : epB (l.take (k + 1)) = epB (l.take k) ++ idB q.1 ++ idB q.2 := by
  simp [epB, List.take_add_one, h, prB]
theorem obB_next {l : List Ob} {k : Nat} {o : Ob} (h : l[k]? = some o) : obB (l.take (k + 1)) = obB (l.take k) ++ zC4 o.1.size ++ o.1.data.toList ++ idB o.2.1 ++ zC4 o.2.2 := by
  simp [obB, List.take_add_one, h, oB]
structure Fine (x : Mf) : Prop where
  id : 0 ≤ x.id ∧ x.id ≤ 2147483647
  base : 0 ≤ x.base ∧ x.base ≤ 1099511627776
  fin : 0 ≤ x.fin ∧ x.fin ≤ 1099511627776
  time : -1099511627776 ≤ x.time ∧ x.time ≤ 1099511627776
  eps : x.eps.length ≤ 256
  pr : ∀ q ∈ x.eps, (0 ≤ q.1 ∧ q.1 ≤ 1073741824) ∧ 0 ≤ q.2 ∧ q.2 ≤ 1099511627776
  obs : 1 ≤ x.obs.length ∧ x.obs.length ≤ 8
  ob : ∀ o ∈ x.obs, zCv o = 0
theorem mf_fine {x : Mf} (h : (mfF x).1 = 0) : Fine x := by
  have h8 := mf_len h; have hid := mf_id h
  unfold mfF at h
  split at h
  · cases h
  · rename_i h1
    simp only [zBe, zEc, Bool.or_eq_true, Bool.not_eq_true', Bool.and_eq_false_iff, decide_eq_true_eq, decide_eq_false_iff_not, not_or] at h1
    split at h
    · rename_i h2; exact absurd h h2
    · rename_i h2
      split at h
      · cases h
      · have hp : ∀ q ∈ x.eps, prOk q = true := by
          have h2 : epF x.eps = 0 := by simpa using h2
          unfold epF at h2
          split at h2
          · cases h2
          · split at h2
            · cases h2
            · rename_i h3; simpa [List.all_eq_true] using h3
        have hob : (1 ≤ x.obs.length ∧ x.obs.length ≤ 8) ∧ ∀ o ∈ x.obs, zCv o = 0 := by
          unfold obF at h
          split at h
          · cases h
          · rename_i h4
            refine ⟨by omega, ?_⟩
            split at h
            · rename_i i hi
              rw [List.findIdx?_eq_some_iff_getElem] at hi; obtain ⟨hl, hb, _⟩ := hi
              have hg : x.obs.getD i (ByteArray.empty, 0, 0) = x.obs[i] := by rw [List.getD_eq_getElem?_getD, List.getElem?_eq_getElem hl]; rfl
              simp only [hg] at h
              simp [h] at hb
            · rename_i hn
              rw [List.findIdx?_eq_none_iff] at hn; intro o ho
              simpa using hn o ho
        refine ⟨hid, by omega, by omega, by omega, h8.1, fun q hq => ?_, hob.1, hob.2⟩; have := hp q hq; simp only [prOk, rightE, zEc, Bool.and_eq_true, decide_eq_true_eq] at this
        omega
theorem mfBody_len {x : Mf} (h : Fine x) : (mfBody x).length ≤ 6000 := by
  have h1 := hdB_len x; have h2 := epB_len x.eps; have h3 := zE3 x.obs.length; have h4 := obB_len x.obs h.ob; have h5 := h.eps; have h6 := h.obs
  simp only [mfBody, List.length_append]; omega
theorem wrapN {n : Int} (h : 0 ≤ n ∧ n ≤ 1099511627776) : IntKind.u64.wrap n = ((n.toNat : Nat) : Int) := by rw [zD1]; omega
theorem ob_fine {o : Ob} (h : zCv o = 0) : 0 ≤ o.2.1 ∧ o.2.1 ≤ 1073741824 := by
  unfold zCv at h
  split at h
  · cases h
  · split at h
    · cases h
    · omega
theorem src_str {P : Program} {tx : TypeId} (hk : P.underlying tx = some .string) (s : ByteArray) (w : World) : Src P 1 tx (.string s) (zAm s.data.toList).length (zAm s.data.toList) w := by
  have h := Src.ofString (P := P) w hk s; have e : byteCells s = zAm s.data.toList := rfl
  have e2 : s.size = (zAm s.data.toList).length := by rw [zAv]; exact Array.length_toList.symm
  rw [e, e2] at h; exact h
set_option maxHeartbeats 2000000 in
theorem maniB_sl (hE : ErrV ad g) (hs : Mem g w L) {m : Mf} {e o : SA} (hm : MfR g L m e o) (h0 : mfF m = (0, none)) (hu : ∀ q ∈ m.obs, q.2.2 < 4294967296) : Calls Tryz.prog 135 #[.agg (mfL m e o).toArray] w (Ret fun v w' => ∃ a c, v = .tuple #[.slice a (mfB m).length c, .nilIface] ∧ Mem g w' (own (.slice a (mfB m).length c) (zAm (mfB m)) :: L)) := by
  have hF := mf_fine (x := m) (by rw [h0]); have hbl := mfBody_len hF; have hhd := hdB_len m; have h8 := hF.obs; have h256 := hF.eps; have hid := hF.id; have hba := hF.base; have hfi := hF.fin; have hti := hF.time
  have i1 := zFf m.id; have i2 := zFf m.base; have i3 := zFf m.fin; have i4 := zE3 (zig m.time); have i5 := zE3 m.eps.length; have i6 := zE3 m.obs.length
  refine zAf Tryz.func135 rfl rfl ?_
  skip
  refine zA3 (zA1 ?_); refine zBh (v := .agg _) hs rfl rfl ?_; clear hs; intro b1 w hs
  try simp only [zzs, zzz] at hs
  refine zA rfl (zA0 (v := .slice _ _ _) rfl) ?_; refine zA rfl (zA0 (v := .nilIface) rfl) ?_; refine zA6 ?_; refine zA3 ?_; refine zA3 (zA1 ?_); refine zA rfl (zBa hs 0 rfl zCb zF2 rfl) ?_; refine zAb rfl en45 (validM_sl hE hs hm.cons (by omega)) ?_; clear hs; rintro _ w ⟨eb, rfl, hs⟩; rw [h0, flC_bare] at hs; rw [h0, flV_bare]; replace hs := hs.tail; refine zA rfl (zA0 (v := zAh ad _) rfl) ?_; refine zA6 (zA3 (zA1 ?_)); refine zA rfl (zA2 (v := zAh ad _) rfl) ?_; refine zA rfl (zAx (ad := ad) rfl) ?_; refine zA6 ?_; refine zB4 rfl (rfl) ?_; refine zAd ?_; refine zA3 (zA1 ?_); refine zA rfl (zA4 (o' := 0) zCb rfl sz3 rfl rfl rfl) ?_; refine zA rfl (zA7 uz3 rfl rfl (hs.cellAt 0 rfl rfl)) ?_
  refine zA rfl (zBm uz3 zFi rfl (c := ((m.id.toNat : Nat) : Int)) (wrapN (by omega))) ?_; refine zAb rfl en142 (zEw hs (lb := []) (n := m.id.toNat) Rd.nil rfl (by decide) (by omega)) ?_; clear hs; rintro _ w ⟨a18, c18, rfl, hs⟩; rw [List.nil_append] at hs ⊢; refine zA rfl (zA0 (v := .slice _ _ _) rfl) ?_; refine zA6 (zA3 (zA1 ?_)); refine zA rfl (zA2 (v := .slice _ _ _) rfl) ?_; refine zA rfl (zA4 (o' := 1) zCb rfl sz2 rfl rfl rfl) ?_; refine zA rfl (zA7 uz2 rfl rfl (hs.cellAt 1 rfl rfl)) ?_; refine zA rfl (zBm uz2 zFi rfl (c := ((m.base.toNat : Nat) : Int)) (wrapN hba)) ?_; refine zAb rfl en142 (zEw hs (lb := idB m.id) (n := m.base.toNat) (hs.rdOwn 0 rfl) rfl (by omega) (by omega)) ?_
  clear hs; rintro _ w ⟨a23, c23, rfl, hs⟩; replace hs := hs.drop 1; refine zA rfl (zA0 (v := .slice _ _ _) rfl) ?_; refine zA6 (zA3 (zA1 ?_)); refine zA rfl (zA2 (v := .slice _ _ _) rfl) ?_; refine zA rfl (zA4 (o' := 2) zCb rfl sz2 rfl rfl rfl) ?_; refine zA rfl (zA7 uz2 rfl rfl (hs.cellAt 1 rfl rfl)) ?_; refine zA rfl (zBm uz2 zFi rfl (c := ((m.fin.toNat : Nat) : Int)) (wrapN hfi)) ?_; refine zAb rfl en142 (zEw hs (lb := idB m.id ++ idB m.base) (n := m.fin.toNat) (hs.rdOwn 0 rfl) rfl (by simp only [List.length_append]; omega) (by omega)) ?_; clear hs; rintro _ w ⟨a28, c28, rfl, hs⟩; replace hs := hs.drop 1; refine zA rfl (zA0 (v := .slice _ _ _) rfl) ?_; refine zA6 (zA3 (zA1 ?_))
  refine zA rfl (zA2 (v := .slice _ _ _) rfl) ?_; refine zA rfl (zA4 (o' := 3) zCb rfl sz2 rfl rfl rfl) ?_; refine zA rfl (zA7 uz2 rfl rfl (hs.cellAt 1 rfl rfl)) ?_; refine zAb rfl en175 (putint_sl hs (lb := idB m.id ++ idB m.base ++ idB m.fin) (z := zig m.time) (hs.rdOwn 0 rfl) rfl (by simp only [List.length_append]; omega) rfl rfl rfl rfl (zig_bits ⟨by omega, by omega⟩) (zig_lt ⟨by omega, by omega⟩)) ?_; clear hs; rintro _ w ⟨a32, c32, rfl, hs⟩; replace hs := hs.drop 1; refine zA rfl (zA0 (v := .slice _ _ _) rfl) ?_; refine zA6 (zA3 (zA1 ?_)); refine zA rfl (zA2 (v := .slice _ _ _) rfl) ?_; refine zA rfl (zA4 (o' := 4) zCb rfl sz36 rfl rfl rfl) ?_
  refine zA rfl (zA7 zDq rfl rfl (hs.cellAt 1 rfl rfl)) ?_; refine zA rfl (zAt zDq rfl) ?_; refine zA rfl (zBm uz3 zFi rfl (c := ((m.eps.length : Nat) : Int)) (wrapN (by omega))) ?_; refine zAb rfl en142 (zEw hs (lb := idB m.id ++ idB m.base ++ idB m.fin ++ zC4 (zig m.time)) (n := m.eps.length) (hs.rdOwn 0 rfl) rfl (by simp only [List.length_append]; omega) (by omega)) ?_; clear hs; rintro _ w ⟨a38, c38, rfl, hs⟩; replace hs := hs.drop 1
  have h9 : idB m.id ++ idB m.base ++ idB m.fin ++ zC4 (zig m.time) ++ zC4 m.eps.length = hdB m ++ epB (m.eps.take 0) := by simp [epB, hdB]
  rw [h9] at hs ⊢; refine zA rfl (zA0 (v := .slice _ _ _) rfl) ?_; refine zA6 ?_; refine zA3 ?_; refine zA3 (zA1 ?_); refine zA rfl (zA4 (o' := 4) zCb rfl sz36 rfl rfl rfl) ?_; refine zA rfl (zA7 zDq rfl rfl (hs.cellAt 1 rfl rfl)) ?_; refine zA rfl (zAt zDq rfl) ?_; refine zA rfl (zA2 (v := .int .i64 _) rfl) ?_; refine zA6 ?_; refine zAo ?_
  refine zBr (X := Nat × SA) [5, 7, 42, 43, 44, 45, 46, 47, 48, 49, 50, 51, 52, 53, 54, 55] (fun q => [(5, .slice q.2.1 (hdB m ++ epB (m.eps.take q.1)).length q.2.2), (42, .int .i64 (q.1 : Nat))]) (fun q w => q.1 ≤ m.eps.length ∧ Mem g w (own (.slice q.2.1 (hdB m ++ epB (m.eps.take q.1)).length q.2.2) (zAm (hdB m ++ epB (m.eps.take q.1))) :: cells b1 (mfL m e o) 39 :: L)) (fun q => m.eps.length - q.1) ((0, (a38, c38))) ?_ ?_ ?_
  · exact ⟨rfl, rfl, trivial⟩
  · exact ⟨Nat.zero_le _, hs⟩
  clear hs; rintro x ξ w hI; obtain ⟨k, s⟩ := x; obtain ⟨hk, hs⟩ := hI; simp only at hk hs
  show cw _ _ _ _ _ _ (updL (mix _ ξ _) [(5, .slice s.1 (hdB m ++ epB (m.eps.take k)).length s.2), (42, .int .i64 (k : Nat))]) w
  refine zA3 (zA1 ?_); refine zA rfl (zB9 rfl rfl) ?_; refine zA6 ?_; refine zA3 ?_; refine zB rfl ?_ ?_
  ·
   intro h43; have g43 := of_decide_eq_true h43; obtain ⟨y, hy⟩ : ∃ y, m.eps[k]? = some y := ⟨_, List.getElem?_eq_getElem (by omega)⟩; obtain ⟨b0, o0, hb0⟩ := hm.eps.cons.cons.at hs (by rw [zEj]; omega); have hpy := hF.pr y (List.mem_of_getElem? hy); have hnx := epB_next hy; have hel := epB_len (m.eps.take k)
   have hkl : (m.eps.take k).length = k := by rw [List.length_take]; omega
   have j1 := zFf y.1; have j2 := zFf y.2; obtain ⟨ea, ec⟩ := e; simp only at hb0; subst hb0; refine zAd ?_; refine zA3 ?_; refine zAo ?_; refine zA3 (zA1 ?_); refine zA rfl (zAs zDq sz46 rfl rfl rfl (by omega) rfl) ?_; refine zA rfl (zCo (cs := prL y) uz46 sz46 rfl (fun j v hj => hm.eps.cons.cons.cell hs (zE5 hy) hj)) ?_; refine zBn hs rfl ze46 ?_; clear hs; intro b7 w hs
   try simp only [zzs, zzz] at hs
   refine zAn hs 0 rfl rfl rfl sz46 rfl rfl ?_; clear hs; intro w hs
   try simp only [zzs, zzz] at hs
   refine zA6 ?_; refine zAp zBk (hs.drop 1) ?_; intro w tr hK; replace hs := tr _ hs; clear tr; refine zA5 0 rfl rfl (fun w hs => zA2 (v := .slice _ _ _) rfl) hK ?_; refine zA5 1 rfl rfl (fun w hs => zA4 (o' := 0) uz46 rfl sz3 rfl rfl rfl) hK ?_; refine zA5 2 rfl rfl (fun w hs => zA7 uz3 rfl rfl (hs.cellAt 0 rfl rfl)) hK ?_; refine zA5 3 rfl rfl (fun w hs => zBm uz3 zFi rfl (c := ((y.1.toNat : Nat) : Int)) (wrapN (by omega))) hK ?_; refine zA5 5 rfl rfl (fun w hs => zA4 (o' := 1) uz46 rfl sz2 rfl rfl rfl) hK ?_; refine zA5 6 rfl rfl (fun w hs => zA7 uz2 rfl rfl (hs.cellAt 0 rfl rfl)) hK ?_
   refine zA5 7 rfl rfl (fun w hs => zBm uz2 zFi rfl (c := ((y.2.toNat : Nat) : Int)) (wrapN (by omega))) hK ?_; refine zAe [4] ?_; refine ⟨⟨_, rfl, ?_⟩, trivial⟩; refine zAb rfl en142 (zEw hs (lb := hdB m ++ epB (m.eps.take k)) (n := y.1.toNat) (hs.rdOwn 1 rfl) rfl (by simp only [List.length_append]; omega) (by omega)) ?_; clear hs; rintro _ w ⟨a50, c50, rfl, hs⟩; clear hK; have hK := (hs.drop 2).tail; refine zA6 ⟨hK, ?_⟩; refine zAe [8] ?_; refine ⟨⟨_, rfl, ?_⟩, trivial⟩; refine zAb rfl en142 (zEw hs (lb := hdB m ++ epB (m.eps.take k) ++ idB y.1) (n := y.2.toNat) (hs.rdOwn 0 rfl) rfl (by simp only [List.length_append]; omega) (by omega)) ?_; clear hs; rintro _ w ⟨a54, c54, rfl, hs⟩
   clear hK; have hK := ((hs.drop 3).drop 1).tail; refine zA6 ⟨hK, ?_⟩; refine zA5 9 rfl rfl (fun w hs => zA0 (v := .slice _ _ _) rfl) hK ?_; refine zAr (by kernel_rfl) ?_; clear hK; refine zA1 ?_; refine zA rfl (zAu rfl rfl rfl (inI (by omega) (by omega))) ?_; refine zA rfl (zA2 (v := .int .i64 _) rfl) ?_; refine zA6 ?_
   have e9 : hdB m ++ epB (m.eps.take k) ++ idB y.1 ++ zC4 y.2.toNat = hdB m ++ epB (m.eps.take (k + 1)) := by rw [hnx]; simp [idB]
   rw [e9] at hs; exact ⟨(k + 1, (a54, c54)), by simp only; omega, ⟨by simp only; omega, hs.arr [0, 4] 5 (by decide)⟩, ⟨show Value.slice a54 (hdB m ++ epB (m.eps.take k) ++ idB y.1 ++ zC4 y.2.toNat).length c54 = Value.slice a54 (hdB m ++ epB (m.eps.take (k + 1))).length c54 from by rw [e9], rfl, trivial⟩, by repeat (first | exact Out.mix _ _ _ | refine Out.updo rfl ?_ | refine Out.upd rfl ?_ | refine Out.mixIn rfl ?_)⟩
  ·
   intro h43; have g43 := of_decide_eq_false h43
   have hke : k = m.eps.length := by omega
   subst hke; rw [List.take_length] at hs ⊢; have hel := epB_len m.eps; refine zBp rfl ?_; refine zA3 (zA1 ?_); refine zA rfl (zA2 (v := .slice _ _ _) rfl) ?_; refine zA rfl (zA4 (o' := 5) zCb rfl sz37 rfl rfl rfl) ?_; refine zA rfl (zA7 zDf rfl rfl (hs.cellAt 1 rfl rfl)) ?_; refine zA rfl (zAt zDf rfl) ?_; refine zA rfl (zBm uz3 zFi rfl (c := ((m.obs.length : Nat) : Int)) (wrapN (by omega))) ?_; refine zAb rfl en142 (zEw hs (lb := hdB m ++ epB m.eps) (n := m.obs.length) (hs.rdOwn 0 rfl) rfl (by simp only [List.length_append]; omega) (by omega)) ?_; clear hs; rintro _ w ⟨a61, c61, rfl, hs⟩; replace hs := hs.drop 1
   obtain ⟨B, hB⟩ : ∃ B, B = hdB m ++ epB m.eps ++ zC4 m.obs.length := ⟨_, rfl⟩; rw [← hB] at hs ⊢
   have hBl : B.length ≤ 5300 := by rw [hB]; simp only [List.length_append]; omega
   have h10 : B = B ++ obB (m.obs.take 0) := (List.append_nil B).symm; rw [h10] at hs ⊢; refine zA rfl (zA0 (v := .slice _ _ _) rfl) ?_; refine zA6 ?_; refine zA3 ?_; refine zA3 (zA1 ?_); refine zA rfl (zA4 (o' := 5) zCb rfl sz37 rfl rfl rfl) ?_; refine zA rfl (zA7 zDf rfl rfl (hs.cellAt 1 rfl rfl)) ?_; refine zA rfl (zAt zDf rfl) ?_; refine zA rfl (zA2 (v := .int .i64 _) rfl) ?_; refine zA6 ?_; refine zAo ?_
   refine zBr (X := Nat × SA) [5, 9, 65, 66, 67, 68, 69, 70, 71, 72, 73, 74, 75, 76, 77, 78, 79, 80, 81, 82, 83, 84, 85, 86, 87, 88] (fun q => [(5, .slice q.2.1 (B ++ obB (m.obs.take q.1)).length q.2.2), (65, .int .i64 (q.1 : Nat))]) (fun q w => q.1 ≤ m.obs.length ∧ Mem g w (own (.slice q.2.1 (B ++ obB (m.obs.take q.1)).length q.2.2) (zAm (B ++ obB (m.obs.take q.1))) :: cells b1 (mfL m e o) 39 :: L)) (fun q => m.obs.length - q.1) ((0, (a61, c61))) ?_ ?_ ?_
   · exact ⟨rfl, rfl, trivial⟩
   · exact ⟨Nat.zero_le _, hs⟩
   clear hs; rintro x ξ w hI; obtain ⟨k, s⟩ := x; obtain ⟨hk, hs⟩ := hI; simp only at hk hs
   show cw _ _ _ _ _ _ (updL (mix _ ξ _) [(5, .slice s.1 (B ++ obB (m.obs.take k)).length s.2), (65, .int .i64 (k : Nat))]) w
   refine zA3 (zA1 ?_); refine zA rfl (zB9 rfl rfl) ?_; refine zA6 ?_; refine zA3 ?_; refine zB rfl ?_ ?_
   ·
    intro h66; have g66 := of_decide_eq_true h66; obtain ⟨y, hy⟩ : ∃ y, m.obs[k]? = some y := ⟨_, List.getElem?_eq_getElem (by omega)⟩; obtain ⟨b0, o0, hb0⟩ := hm.obs.cons.cons.at hs (by rw [zE9]; omega); have hpy := hF.ob y (List.mem_of_getElem? hy); have hpo := ob_fine hpy; have huy := hu y (List.mem_of_getElem? hy); have hnx := obB_next hy; have hel := obB_len (m.obs.take k) (fun q hq => hF.ob q (List.mem_of_mem_take hq))
    have hkl : (m.obs.take k).length = k := by rw [List.length_take]; omega
    have hol := oB_len hpy; simp only [oB, List.length_append] at hol; have hys : y.1.size = y.1.data.toList.length := Array.length_toList.symm; obtain ⟨oa, oc⟩ := o; simp only at hb0; subst hb0; refine zAd ?_; refine zA3 ?_; refine zAo ?_; refine zA3 (zA1 ?_); refine zA rfl (zAs zDf sz66 rfl rfl rfl (by omega) rfl) ?_; refine zA rfl (zCo (cs := obL y) uz66 sz66 rfl (fun j v hj => hm.obs.cons.cons.cell hs (zFg hy) hj)) ?_; refine zBn hs rfl ze66 ?_; clear hs; intro b9 w hs
    try simp only [zzs, zzz] at hs
    refine zAn hs 0 rfl rfl rfl sz66 rfl rfl ?_; clear hs; intro w hs
    try simp only [zzs, zzz] at hs
    refine zA6 (zA3 (zA1 ?_)); refine zA rfl (zA2 (v := .slice _ _ _) rfl) ?_; refine zA rfl (zA4 (o' := 0) uz66 rfl sz9 rfl rfl rfl) ?_; refine zA rfl (zA7 uz9 rfl rfl (hs.cellAt 0 rfl rfl)) ?_; refine zA rfl (run_lenT uz9 rfl) ?_; refine zA rfl (zBm uz3 zFi rfl (c := ((y.1.size : Nat) : Int)) (wrapN (by omega))) ?_; refine zAb rfl en142 (zEw hs (lb := B ++ obB (m.obs.take k)) (n := y.1.size) (hs.rdOwn 1 rfl) rfl (by simp only [List.length_append]; omega) (by omega)) ?_; clear hs; rintro _ w ⟨a74, c74, rfl, hs⟩; refine zA rfl (zA0 (v := .slice _ _ _) rfl) ?_; refine zA6 (zA3 (zA1 ?_)); refine zA rfl (zA2 (v := .slice _ _ _) rfl) ?_
    refine zA rfl (zA4 (o' := 0) uz66 rfl sz9 rfl rfl rfl) ?_; refine zA rfl (zA7 uz9 rfl rfl (hs.cellAt 1 rfl rfl)) ?_; refine zD3 hs rfl 0 rfl zCk in5 rfl rfl rfl (src_str uz9 y.1 _) (by simp only [zAv, List.length_append]; omega) (by simp only [zAv, List.length_append]; omega) ?_; clear hs; intro a78 c78 w hs; simp only [zzs, zzz] at hs; have e8 : zAm (B ++ obB (m.obs.take k) ++ zC4 y.1.size) ++ zAm y.1.data.toList = zAm (B ++ obB (m.obs.take k) ++ zC4 y.1.size ++ y.1.data.toList) := (zDh _ _).symm
    have e7 : (zAm (B ++ obB (m.obs.take k) ++ zC4 y.1.size)).length + (zAm y.1.data.toList).length = (B ++ obB (m.obs.take k) ++ zC4 y.1.size ++ y.1.data.toList).length := by simp only [zAv, List.length_append]
    rw [e7] at hs ⊢; rw [e8] at hs; refine zA rfl (zA0 (v := .slice _ _ _) rfl) ?_; refine zA6 ?_; refine zAp zBk hs.tail ?_; intro w tr hK; replace hs := tr _ hs; clear tr; refine zA5 0 rfl rfl (fun w hs => zA2 (v := .slice _ _ _) rfl) hK ?_; refine zA5 1 rfl rfl (fun w hs => zA4 (o' := 1) uz66 rfl sz3 rfl rfl rfl) hK ?_; refine zA5 2 rfl rfl (fun w hs => zA7 uz3 rfl rfl (hs.cellAt 0 rfl rfl)) hK ?_; refine zA5 3 rfl rfl (fun w hs => zBm uz3 zFi rfl (c := ((y.2.1.toNat : Nat) : Int)) (wrapN (by omega))) hK ?_; refine zA5 5 rfl rfl (fun w hs => zA4 (o' := 2) uz66 rfl sz64 rfl rfl rfl) hK ?_; refine zA5 6 rfl rfl (fun w hs => zA7 uz64 rfl rfl (hs.cellAt 0 rfl rfl)) hK ?_
    refine zA5 7 rfl rfl (fun w hs => zBm uz64 zFi rfl (c := ((y.2.2 : Nat) : Int)) (by rw [zD1]; omega)) hK ?_; refine zAe [4] ?_; refine ⟨⟨_, rfl, ?_⟩, trivial⟩; refine zAb rfl en142 (zEw hs (lb := B ++ obB (m.obs.take k) ++ zC4 y.1.size ++ y.1.data.toList) (n := y.2.1.toNat) (hs.rdOwn 0 rfl) rfl (by simp only [List.length_append]; omega) (by omega)) ?_; clear hs; rintro _ w ⟨a83, c83, rfl, hs⟩; clear hK; have hK := (hs.drop 1).tail; refine zA6 ⟨hK, ?_⟩; refine zAe [8] ?_; refine ⟨⟨_, rfl, ?_⟩, trivial⟩
    refine zAb rfl en142 (zEw hs (lb := B ++ obB (m.obs.take k) ++ zC4 y.1.size ++ y.1.data.toList ++ idB y.2.1) (n := y.2.2) (hs.rdOwn 0 rfl) rfl (by simp only [List.length_append]; omega) (by omega)) ?_; clear hs; rintro _ w ⟨a87, c87, rfl, hs⟩; clear hK; have hK := ((hs.drop 2).drop 1).tail; refine zA6 ⟨hK, ?_⟩; refine zA5 9 rfl rfl (fun w hs => zA0 (v := .slice _ _ _) rfl) hK ?_; refine zAr (by kernel_rfl) ?_; clear hK; refine zA1 ?_; refine zA rfl (zAu rfl rfl rfl (inI (by omega) (by omega))) ?_; refine zA rfl (zA2 (v := .int .i64 _) rfl) ?_; refine zA6 ?_
    have e9 : B ++ obB (m.obs.take k) ++ zC4 y.1.size ++ y.1.data.toList ++ idB y.2.1 ++ zC4 y.2.2 = B ++ obB (m.obs.take (k + 1)) := by rw [hnx]; simp only [List.append_assoc]
    rw [e9] at hs; exact ⟨(k + 1, (a87, c87)), by simp only; omega, ⟨by simp only; omega, hs.arr [0, 5] 6 (by decide)⟩, ⟨show Value.slice a87 (B ++ obB (m.obs.take k) ++ zC4 y.1.size ++ y.1.data.toList ++ idB y.2.1 ++ zC4 y.2.2).length c87 = Value.slice a87 (B ++ obB (m.obs.take (k + 1))).length c87 from by rw [e9], rfl, trivial⟩, by repeat (first | exact Out.mix _ _ _ | refine Out.updo rfl ?_ | refine Out.upd rfl ?_ | refine Out.mixIn rfl ?_)⟩
   ·
    intro h66; have g66 := of_decide_eq_false h66
    have hke : k = m.obs.length := by omega
    subst hke; rw [List.take_length] at hs ⊢
    have e9 : B ++ obB m.obs = mfBody m := by rw [hB]; rfl
    rw [e9] at hs ⊢; refine zBp rfl ?_; refine zA3 (zA1 ?_); refine zA rfl (zA2 (v := .slice _ _ _) rfl) ?_; refine zAb rfl en137 (seal_sl hs (l := mfBody m) (hs.rdOwn 0 rfl) rfl (by omega)) ?_; clear hs; rintro _ w ⟨a90, c90, rfl, hs⟩; refine zA rfl (zA0 (v := .slice _ _ _) rfl) ?_; refine zA rfl (zA0 (v := .nilIface) rfl) ?_; refine zA6 ?_; refine zAc ?_; refine zDz (v := .slice _ _ _) (v2 := .nilIface) rfl rfl rfl ?_; exact ⟨_, rfl, a90, c90, rfl, hs.arr [0] 3 (by decide)⟩
end
end Go.Proofs.YthejaanobeonnaaGreatDoor
