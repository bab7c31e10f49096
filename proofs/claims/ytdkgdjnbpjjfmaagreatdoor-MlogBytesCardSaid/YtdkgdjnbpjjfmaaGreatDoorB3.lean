/- Manifests: Valid, Same, Clone, Names; what may follow what. Views: plain laws. A view's methods: New, State, Refers, Apply. A kind and a manifest, put together. A view's Apply. A view's Next. Bytes: a copy. The sums' plain law: four bits at a time are as one at a time. crc: halves, More, Of. The disk in plain words: files by their numbers, names that lead to them, what is kept, changes. The disk in plain words: what every call keeps. The disk in plain words: a crash. The disk in plain words: what a call does while the power is there. The disk in memory: chunks. The disk, over chunks: New, begin, file, find, apply, change. crc.Seal, crc.Open, slices.Equal of bytes, over chunks; vint.Put. Manifests as bytes. Numbers of so many bytes; entries as bytes. DERIVED: THE SHELF's CONTRACTS AT THIS DUMP, IN PLAIN WORDS (tools/lay-plain.mjs out of 'YtdkgdjnbpjjfmaaGreatDoorSh0S.lean', which tools/lay-shelf.mjs wrote): THE SAME DECLARATIONS UNDER THE SAME NAMES: 'import', 'namespace', 'open', 'def', 'theorem' AND NOTHING ELSE: no command of the shelf's: FOR A HAND-IN. Each laying: the table of numbers ('.._ren') and one theorem, a field a fact of the dump's own or the kernel's comparison; each contract: ONE APPLICATION. -/
import Derived.Test.YtdkgdjnbpjjfmaaGreatDoorB2
import Derived.Test.YtdkgdjnbpjjfmaaGreatDoorB1
import Derived.Laws.IdiomStrings
import Derived.Laws.Bits64
import Derived.Shelf.Spec.TrailingZeros
import Derived.Deep.LoopGhost
import Derived.Shelf.SlIter.Nil
import Derived.Shelf.SortM.SortNone
import Derived.Shelf.SlIterI.Nil
import Derived.Shelf.SortM.Plain
namespace Go.Proofs.YtdkgdjnbpjjfmaaGreatDoor
set_option linter.all false
open Go.RowKit
attribute [local irreducible] zAq
variable {g w : World} {L M : List HP} {ad : Nat → Addr} {p : Nat}

/-- A pair by its place. -/
theorem pr_get {l : List Pr} {i : Nat} {y : Pr} (h : l[i]? = some y) : l.getD i (0, 0) = y := by rw [List.getD_eq_getElem?_getD, h]; rfl
theorem epF_len {l : List Pr} (h : epF l = 0) : l.length ≤ 256 := by
  unfold epF at h
  split at h
  · cases h
  · omega
theorem validM_sl (hE : ErrV ad g) (hs : Mem g w L) {x : Mf} {e o : SA} (hm : MfR g L x e o) (hob : x.obs.length ≤ 1000000) : Calls Tryz.prog 40 #[.agg (mfL x e o).toArray] w (Ret (RetF ad (mfF x) g L)) := by
  obtain ⟨ea, ec⟩ := e; refine zAo Tryz.func40 rfl rfl ?_
  skip
  refine zA6 (zA1 ?_); refine zCj (v := .agg _) hs rfl rfl ?_; clear hs; intro b1 w hs
  try simp only [List.set_cons_succ, List.set_cons_zero] at hs
  refine zA rfl (zA2 (v := .nilIface) rfl) ?_; refine zA4 (zA6 (zA1 ?_)); refine zA rfl (zA2 (v := .func _ _ _) rfl) ?_; refine zA4 ?_; refine zA6 ?_; refine zA6 (zA1 ?_); refine zA rfl (zA3 (o' := 0) zBx rfl sz3 rfl rfl rfl) ?_; refine zA rfl (zA8 uz3 rfl rfl (hs.cellAt 0 rfl rfl)) ?_; refine zA rfl (zB7 rfl rfl) ?_; refine zA rfl (zA0 (v := .bool _) rfl) ?_; refine zBa (t := _) (d := 10) rfl ?_ ?_
  ·
   intro h9; have g9 := of_decide_eq_true h9; refine zAc rfl rfl rfl h9 ?_; refine zAc rfl rfl rfl h9 ?_; refine zAc rfl rfl rfl h9 ?_; refine zA rfl (zAj (v := .bool _) rfl h9 rfl) ?_; refine zA rfl (zA0 (v := .bool _) rfl) ?_; refine zAc rfl rfl rfl rfl ?_; refine zAc rfl rfl rfl rfl ?_; refine zAc rfl rfl rfl rfl ?_; refine zAc rfl rfl rfl rfl ?_; refine zAc rfl rfl rfl rfl ?_; refine zA rfl (zAj (v := .bool _) rfl rfl rfl) ?_; refine zA rfl (zA0 (v := .bool _) rfl) ?_; refine zAc rfl rfl rfl rfl ?_; refine zAc rfl rfl rfl rfl ?_; refine zAc rfl rfl rfl rfl ?_; refine zAc rfl rfl rfl rfl ?_; refine zAc rfl rfl rfl rfl ?_; refine zA rfl (zAj (v := .bool _) rfl rfl rfl) ?_
   refine zA rfl (zA0 (v := .bool _) rfl) ?_; refine zAc rfl rfl rfl rfl ?_; refine zAc rfl rfl rfl rfl ?_; refine zAc rfl rfl rfl rfl ?_; refine zA rfl (zAj (v := .bool _) rfl rfl rfl) ?_; refine zA rfl (zA0 (v := .bool _) rfl) ?_; refine zAc rfl rfl rfl rfl ?_; refine zAc rfl rfl rfl rfl ?_; refine zAc rfl rfl rfl rfl ?_; refine zA rfl (zAj (v := .bool _) rfl rfl rfl) ?_; refine zA rfl (zA0 (v := .bool _) rfl) ?_; refine zAc rfl rfl rfl rfl ?_; refine zAc rfl rfl rfl rfl ?_; refine zAc rfl rfl rfl rfl ?_; refine zAc rfl rfl rfl rfl ?_; refine zAc rfl rfl rfl rfl ?_; refine zA rfl (zAj (v := .bool _) rfl rfl rfl) ?_; refine zA4 ?_; refine zBb rfl rfl ?_; refine zA6 (zA1 ?_)
   refine zA rfl (zA8 zCq rfl rfl (hE.cellW hs 105 (by decide) rfl)) ?_; refine zA rfl (zA2 (v := zAq ad _) rfl) ?_; refine zA4 ?_; refine zAg ?_; refine zBl (v := zAq ad _) rfl rfl ?_
   have hr : zBh x = true := by simp [zBh, *]
   rw [mfF, if_pos hr]; exact ⟨_, rfl, RetF.bare hs.tail⟩
  ·
   intro h9; have g9 := of_decide_eq_false h9; refine zAi rfl rfl h9 ?_; refine zA rfl (zA3 (o' := 0) zBx rfl sz3 rfl rfl rfl) ?_; refine zAi rfl rfl h9 ?_; refine zA rfl (zA8 uz3 rfl rfl (hs.cellAt 0 rfl rfl)) ?_; refine zAi rfl rfl h9 ?_; refine zA rfl (zBi rfl rfl) ?_; refine zA rfl (zAk (v := .bool _) rfl h9 rfl) ?_; refine zA rfl (zA0 (v := .bool _) rfl) ?_; refine zBa (t := _) (d := 15) rfl ?_ ?_
   ·
    intro h13; have g13 := of_decide_eq_true h13; refine zAc rfl rfl rfl h13 ?_; refine zAc rfl rfl rfl h13 ?_; refine zAc rfl rfl rfl h13 ?_; refine zAc rfl rfl rfl h13 ?_; refine zAc rfl rfl rfl h13 ?_; refine zA rfl (zAj (v := .bool _) rfl h13 rfl) ?_; refine zA rfl (zA0 (v := .bool _) rfl) ?_; refine zAc rfl rfl rfl rfl ?_; refine zAc rfl rfl rfl rfl ?_; refine zAc rfl rfl rfl rfl ?_; refine zAc rfl rfl rfl rfl ?_; refine zAc rfl rfl rfl rfl ?_; refine zA rfl (zAj (v := .bool _) rfl rfl rfl) ?_; refine zA rfl (zA0 (v := .bool _) rfl) ?_; refine zAc rfl rfl rfl rfl ?_; refine zAc rfl rfl rfl rfl ?_; refine zAc rfl rfl rfl rfl ?_; refine zA rfl (zAj (v := .bool _) rfl rfl rfl) ?_
    refine zA rfl (zA0 (v := .bool _) rfl) ?_; refine zAc rfl rfl rfl rfl ?_; refine zAc rfl rfl rfl rfl ?_; refine zAc rfl rfl rfl rfl ?_; refine zA rfl (zAj (v := .bool _) rfl rfl rfl) ?_; refine zA rfl (zA0 (v := .bool _) rfl) ?_; refine zAc rfl rfl rfl rfl ?_; refine zAc rfl rfl rfl rfl ?_; refine zAc rfl rfl rfl rfl ?_; refine zAc rfl rfl rfl rfl ?_; refine zAc rfl rfl rfl rfl ?_; refine zA rfl (zAj (v := .bool _) rfl rfl rfl) ?_; refine zA4 ?_; refine zBb rfl rfl ?_; refine zA6 (zA1 ?_); refine zA rfl (zA8 zCq rfl rfl (hE.cellW hs 105 (by decide) rfl)) ?_; refine zA rfl (zA2 (v := zAq ad _) rfl) ?_; refine zA4 ?_; refine zAg ?_; refine zBl (v := zAq ad _) rfl rfl ?_
    have hr : zBh x = true := by simp [zBh, *]
    rw [mfF, if_pos hr]; exact ⟨_, rfl, RetF.bare hs.tail⟩
   ·
    intro h13; have g13 := of_decide_eq_false h13; refine zAi rfl rfl h13 ?_; refine zA rfl (zA0 (v := .func _ _ _) rfl) ?_; refine zAi rfl rfl h13 ?_; refine zA rfl (zA3 (o' := 1) zBx rfl sz2 rfl rfl rfl) ?_; refine zAi rfl rfl h13 ?_; refine zA rfl (zA8 uz2 rfl rfl (hs.cellAt 0 rfl rfl)) ?_; refine zAi rfl rfl h13 ?_; refine zD2 rfl (cap := #[]) en83 rfl (right_sl hs x.base) ?_; clear hs; rintro _ w ⟨rfl, hs⟩; refine zAi rfl rfl h13 ?_; refine zA rfl (zC4 rfl) ?_; refine zA rfl (zAk (v := .bool _) rfl h13 rfl) ?_; refine zA rfl (zA0 (v := .bool _) rfl) ?_; refine zBa (t := _) (d := 22) rfl ?_ ?_
    ·
     intro h19; replace h19 := zFu h19; refine zAc rfl rfl rfl (zCn h19) ?_; refine zAc rfl rfl rfl (zCn h19) ?_; refine zAc rfl rfl rfl (zCn h19) ?_; refine zAc rfl rfl rfl (zCn h19) ?_; refine zAc rfl rfl rfl (zCn h19) ?_; refine zA rfl (zAj (v := .bool _) rfl (zCn h19) rfl) ?_; refine zA rfl (zA0 (v := .bool _) rfl) ?_; refine zAc rfl rfl rfl rfl ?_; refine zAc rfl rfl rfl rfl ?_; refine zAc rfl rfl rfl rfl ?_; refine zA rfl (zAj (v := .bool _) rfl rfl rfl) ?_; refine zA rfl (zA0 (v := .bool _) rfl) ?_; refine zAc rfl rfl rfl rfl ?_; refine zAc rfl rfl rfl rfl ?_; refine zAc rfl rfl rfl rfl ?_; refine zA rfl (zAj (v := .bool _) rfl rfl rfl) ?_
     refine zA rfl (zA0 (v := .bool _) rfl) ?_; refine zAc rfl rfl rfl rfl ?_; refine zAc rfl rfl rfl rfl ?_; refine zAc rfl rfl rfl rfl ?_; refine zAc rfl rfl rfl rfl ?_; refine zAc rfl rfl rfl rfl ?_; refine zA rfl (zAj (v := .bool _) rfl rfl rfl) ?_; refine zA4 ?_; refine zBb rfl rfl ?_; refine zA6 (zA1 ?_); refine zA rfl (zA8 zCq rfl rfl (hE.cellW hs 105 (by decide) rfl)) ?_; refine zA rfl (zA2 (v := zAq ad _) rfl) ?_; refine zA4 ?_; refine zAg ?_; refine zBl (v := zAq ad _) rfl rfl ?_
     have hr : zBh x = true := by simp [zBh, *]
     rw [mfF, if_pos hr]; exact ⟨_, rfl, RetF.bare hs.tail⟩
    ·
     intro h19; replace h19 := zEs h19; refine zAi rfl rfl (zC8 h19) ?_; refine zA rfl (zA0 (v := .func _ _ _) rfl) ?_; refine zAi rfl rfl (zC8 h19) ?_; refine zA rfl (zA3 (o' := 2) zBx rfl sz2 rfl rfl rfl) ?_; refine zAi rfl rfl (zC8 h19) ?_; refine zA rfl (zA8 uz2 rfl rfl (hs.cellAt 0 rfl rfl)) ?_; refine zAi rfl rfl (zC8 h19) ?_; refine zD2 rfl (cap := #[]) en83 rfl (right_sl hs x.fin) ?_; clear hs; rintro _ w ⟨rfl, hs⟩; refine zAi rfl rfl (zC8 h19) ?_; refine zA rfl (zC4 rfl) ?_; refine zA rfl (zAk (v := .bool _) rfl (zC8 h19) rfl) ?_; refine zA rfl (zA0 (v := .bool _) rfl) ?_; refine zBa (t := _) (d := 29) rfl ?_ ?_
     ·
      intro h26; replace h26 := zFu h26; refine zAc rfl rfl rfl (zCn h26) ?_; refine zAc rfl rfl rfl (zCn h26) ?_; refine zAc rfl rfl rfl (zCn h26) ?_; refine zA rfl (zAj (v := .bool _) rfl (zCn h26) rfl) ?_; refine zA rfl (zA0 (v := .bool _) rfl) ?_; refine zAc rfl rfl rfl rfl ?_; refine zAc rfl rfl rfl rfl ?_; refine zAc rfl rfl rfl rfl ?_; refine zA rfl (zAj (v := .bool _) rfl rfl rfl) ?_; refine zA rfl (zA0 (v := .bool _) rfl) ?_; refine zAc rfl rfl rfl rfl ?_; refine zAc rfl rfl rfl rfl ?_; refine zAc rfl rfl rfl rfl ?_; refine zAc rfl rfl rfl rfl ?_; refine zAc rfl rfl rfl rfl ?_; refine zA rfl (zAj (v := .bool _) rfl rfl rfl) ?_; refine zA4 ?_; refine zBb rfl rfl ?_
      refine zA6 (zA1 ?_); refine zA rfl (zA8 zCq rfl rfl (hE.cellW hs 105 (by decide) rfl)) ?_; refine zA rfl (zA2 (v := zAq ad _) rfl) ?_; refine zA4 ?_; refine zAg ?_; refine zBl (v := zAq ad _) rfl rfl ?_
      have hr : zBh x = true := by simp [zBh, *]
      rw [mfF, if_pos hr]; exact ⟨_, rfl, RetF.bare hs.tail⟩
     ·
      intro h26; replace h26 := zEs h26; refine zAi rfl rfl (zC8 h26) ?_; refine zA rfl (zA3 (o' := 3) zBx rfl sz2 rfl rfl rfl) ?_; refine zAi rfl rfl (zC8 h26) ?_; refine zA rfl (zA8 uz2 rfl rfl (hs.cellAt 0 rfl rfl)) ?_; refine zAi rfl rfl (zC8 h26) ?_; refine zA rfl (zB7 rfl rfl) ?_; refine zA rfl (zAk (v := .bool _) rfl (zC8 h26) rfl) ?_; refine zA rfl (zA0 (v := .bool _) rfl) ?_; refine zBa (t := _) (d := 34) rfl ?_ ?_
      ·
       intro h32; have g32 := of_decide_eq_true h32; refine zAc rfl rfl rfl h32 ?_; refine zAc rfl rfl rfl h32 ?_; refine zAc rfl rfl rfl h32 ?_; refine zA rfl (zAj (v := .bool _) rfl h32 rfl) ?_; refine zA rfl (zA0 (v := .bool _) rfl) ?_; refine zAc rfl rfl rfl rfl ?_; refine zAc rfl rfl rfl rfl ?_; refine zAc rfl rfl rfl rfl ?_; refine zAc rfl rfl rfl rfl ?_; refine zAc rfl rfl rfl rfl ?_; refine zA rfl (zAj (v := .bool _) rfl rfl rfl) ?_; refine zA4 ?_; refine zBb rfl rfl ?_; refine zA6 (zA1 ?_); refine zA rfl (zA8 zCq rfl rfl (hE.cellW hs 105 (by decide) rfl)) ?_; refine zA rfl (zA2 (v := zAq ad _) rfl) ?_; refine zA4 ?_; refine zAg ?_; refine zBl (v := zAq ad _) rfl rfl ?_
       have hr : zBh x = true := by simp [zBh, *]
       rw [mfF, if_pos hr]; exact ⟨_, rfl, RetF.bare hs.tail⟩
      ·
       intro h32; have g32 := of_decide_eq_false h32; refine zAi rfl rfl h32 ?_; refine zA rfl (zA3 (o' := 3) zBx rfl sz2 rfl rfl rfl) ?_; refine zAi rfl rfl h32 ?_; refine zA rfl (zA8 uz2 rfl rfl (hs.cellAt 0 rfl rfl)) ?_; refine zAi rfl rfl h32 ?_; refine zA rfl (zBi rfl rfl) ?_; refine zA rfl (zAk (v := .bool _) rfl h32 rfl) ?_; refine zA rfl (zA0 (v := .bool _) rfl) ?_; refine zBa (t := _) (d := 39) rfl ?_ ?_
       ·
        intro h37; have g37 := of_decide_eq_true h37; refine zAc rfl rfl rfl h37 ?_; refine zAc rfl rfl rfl h37 ?_; refine zAc rfl rfl rfl h37 ?_; refine zAc rfl rfl rfl h37 ?_; refine zAc rfl rfl rfl h37 ?_; refine zA rfl (zAj (v := .bool _) rfl h37 rfl) ?_; refine zA4 ?_; refine zBb rfl rfl ?_; refine zA6 (zA1 ?_); refine zA rfl (zA8 zCq rfl rfl (hE.cellW hs 105 (by decide) rfl)) ?_; refine zA rfl (zA2 (v := zAq ad _) rfl) ?_; refine zA4 ?_; refine zAg ?_; refine zBl (v := zAq ad _) rfl rfl ?_
        have hr : zBh x = true := by simp [zBh, *]
        rw [mfF, if_pos hr]; exact ⟨_, rfl, RetF.bare hs.tail⟩
       ·
        intro h37; have g37 := of_decide_eq_false h37; refine zAi rfl rfl h37 ?_; refine zA rfl (zA3 (o' := 2) zBx rfl sz2 rfl rfl rfl) ?_; refine zAi rfl rfl h37 ?_; refine zA rfl (zA8 uz2 rfl rfl (hs.cellAt 0 rfl rfl)) ?_; refine zAi rfl rfl h37 ?_; refine zA rfl (zA3 (o' := 1) zBx rfl sz2 rfl rfl rfl) ?_; refine zAi rfl rfl h37 ?_; refine zA rfl (zA8 uz2 rfl rfl (hs.cellAt 0 rfl rfl)) ?_; refine zAi rfl rfl h37 ?_; refine zA rfl (zDy rfl rfl) ?_; refine zA rfl (zAk (v := .bool _) rfl h37 rfl) ?_; refine zA4 ?_; refine zB8 rfl ?_ ?_
        ·
         intro h44; have g44 := of_decide_eq_true h44; refine zA6 (zA1 ?_); refine zA rfl (zA8 zCq rfl rfl (hE.cellW hs 105 (by decide) rfl)) ?_; refine zA rfl (zA2 (v := zAq ad _) rfl) ?_; refine zA4 ?_; refine zAg ?_; refine zBl (v := zAq ad _) rfl rfl ?_
         have hr : zBh x = true := by simp [zBh, *]
         rw [mfF, if_pos hr]; exact ⟨_, rfl, RetF.bare hs.tail⟩
        ·
         intro h44; have g44 := of_decide_eq_false h44; refine zAf ?_; refine zA6 ?_; refine zA6 (zA1 ?_); refine zA rfl (zA3 (o' := 4) zBx rfl sz36 rfl rfl rfl) ?_; refine zA rfl (zA8 zCx rfl rfl (hs.cellAt 0 rfl rfl)) ?_; refine zAb rfl en84 (epNew_sl hE hs hm.eps.cons rfl) ?_; clear hs; rintro _ w ⟨q, rfl, hs⟩; refine zA rfl (zA0 (v := .tuple _) rfl) ?_; refine zA rfl (zAa (v := .pointer _) rfl rfl) ?_; refine zA rfl (zAa (v := zAq ad _) rfl rfl) ?_; refine zA rfl (zA2 (v := .pointer _) rfl) ?_; refine zA rfl (zA2 (v := zAq ad _) rfl) ?_; refine zA4 (zA6 (zA1 ?_)); refine zA rfl (zA0 (v := zAq ad _) rfl) ?_; refine zA rfl (zAt (ad := ad) rfl) ?_; refine zA4 ?_
         refine zB8 rfl ?_ ?_
         ·
          intro h54; have g54 := ne_t h54; refine zA6 (zA1 ?_); refine zA rfl (zA0 (v := zAq ad _) rfl) ?_; refine zA rfl (zA2 (v := zAq ad _) rfl) ?_; refine zA4 ?_; refine zAg ?_; refine zBl (v := zAq ad _) rfl rfl ?_
          have hr : zBh x = false := by simp [zBh, *]
          have hep : epF x.eps ≠ 0 := by simpa using h54
          rw [mfF, if_neg (by rw [hr]; decide), if_pos hep]; exact ⟨_, rfl, RetF.bare hs.tail⟩
         ·
          intro h54; have g54 := ne_f h54; refine zAf ?_; refine zA6 ?_; refine zA6 (zA1 ?_); refine zA rfl (zA3 (o' := 4) zBx rfl sz36 rfl rfl rfl) ?_; refine zA rfl (zA8 zCx rfl rfl (hs.cellAt 0 rfl rfl)) ?_; refine zA rfl (zB2 zCx rfl) ?_; refine zA rfl (zA2 (v := .int .i64 _) rfl) ?_; refine zA4 ?_; refine zA6 ?_; refine zAy zBv hs ?_; intro w tr hK; replace hs := tr _ hs; clear tr; refine zA5 0 rfl rfl (fun w hs => zA0 (v := .int .i64 _) rfl) hK ?_; refine zA5 1 rfl rfl (fun w hs => zBn rfl rfl) hK ?_; refine zA5 2 rfl rfl (fun w hs => zA0 (v := .bool _) rfl) hK ?_; refine aw_split (t := _) (d := 61) rfl ?_ ?_
          ·
           intro h60; have g60 := of_decide_eq_true h60; refine zAd 3 rfl rfl rfl rfl h60 hK ?_; refine zAd 4 rfl rfl rfl rfl h60 hK ?_; refine zAd 5 rfl rfl rfl rfl h60 hK ?_; refine zAd 6 rfl rfl rfl rfl h60 hK ?_; refine zAd 7 rfl rfl rfl rfl h60 hK ?_; refine zAd 8 rfl rfl rfl rfl h60 hK ?_; refine zAd 9 rfl rfl rfl rfl h60 hK ?_; refine zAd 10 rfl rfl rfl rfl h60 hK ?_; refine zA5 11 rfl rfl (fun w hs => zAj (v := .bool _) rfl h60 rfl) hK ?_; refine zA5 12 rfl rfl (fun w hs => zA0 (v := .bool _) rfl) hK ?_; refine zAd 13 rfl rfl rfl rfl rfl hK ?_; refine zAd 14 rfl rfl rfl rfl rfl hK ?_; refine zAd 15 rfl rfl rfl rfl rfl hK ?_; refine zAd 16 rfl rfl rfl rfl rfl hK ?_
           refine zAd 17 rfl rfl rfl rfl rfl hK ?_; refine zAd 18 rfl rfl rfl rfl rfl hK ?_; refine zAd 19 rfl rfl rfl rfl rfl hK ?_; refine zAd 20 rfl rfl rfl rfl rfl hK ?_; refine zAd 21 rfl rfl rfl rfl rfl hK ?_; refine zAd 22 rfl rfl rfl rfl rfl hK ?_; refine zA5 23 rfl rfl (fun w hs => zAj (v := .bool _) rfl rfl rfl) hK ?_; refine zAp (by kernel_rfl) ?_; clear hK; refine zBb rfl rfl ?_; refine zA6 (zA1 ?_); refine zA rfl (zA8 zCq rfl rfl (hE.cellW hs 103 (by decide) rfl)) ?_; refine zA rfl (zA2 (v := zAq ad _) rfl) ?_; refine zA4 ?_; refine zAg ?_; refine zBl (v := zAq ad _) rfl rfl ?_
           have hr : zBh x = false := by simp [zBh, *]
           have hep : ¬ epF x.eps ≠ 0 := by simpa using h54
           have hsb : zDe x = true := by rw [zDe, decide_eq_true (show x.eps.length = 0 by omega)]; rfl
           rw [mfF, if_neg (by rw [hr]; decide), if_neg hep, if_pos hsb]; exact ⟨_, rfl, RetF.bare hs.tail⟩
          ·
           intro h60; have g60 := of_decide_eq_false h60; obtain ⟨y0, hy0⟩ : ∃ y, x.eps[0]? = some y := ⟨_, List.getElem?_eq_getElem (by omega)⟩; obtain ⟨y1, hy1⟩ : ∃ y, x.eps[x.eps.length - 1]? = some y := ⟨_, List.getElem?_eq_getElem (by omega)⟩; obtain ⟨b1, o1, rfl⟩ := hm.eps.cons.at hs (by rw [zEb]; omega); have hlen := epF_len (show epF x.eps = 0 by simpa using h54); refine zAe 3 rfl rfl rfl rfl h60 (fun w hs => zA3 (o' := 4) zBx rfl sz36 rfl rfl rfl) hK ?_; refine zAe 4 rfl rfl rfl rfl h60 (fun w hs => zA8 zCx rfl rfl (hs.cellAt 0 rfl rfl)) hK ?_; refine zAe 5 rfl rfl rfl rfl h60 (fun w hs => zB0 zCx zEo rfl rfl (i := 0) rfl (by omega) rfl) hK ?_
           refine zAe 6 rfl rfl rfl rfl h60 (fun w hs => zA3 zDk rfl sz2 rfl rfl rfl) hK ?_; refine zAe 7 rfl rfl rfl rfl h60 (fun w hs => zA8 uz2 rfl rfl (hm.eps.cons.cell hs (zE4 hy0) (j := 1) rfl)) hK ?_; refine zAe 8 rfl rfl rfl rfl h60 (fun w hs => zA3 (o' := 1) zBx rfl sz2 rfl rfl rfl) hK ?_; refine zAe 9 rfl rfl rfl rfl h60 (fun w hs => zA8 uz2 rfl rfl (hs.cellAt 0 rfl rfl)) hK ?_; refine zAe 10 rfl rfl rfl rfl h60 (fun w hs => zDh rfl rfl) hK ?_; refine zA5 11 rfl rfl (fun w hs => zAk (v := .bool _) rfl h60 rfl) hK ?_; refine zA5 12 rfl rfl (fun w hs => zA0 (v := .bool _) rfl) hK ?_; refine aw_split (t := _) (d := 71) rfl ?_ ?_
           ·
            intro h69; have g69 := ne_t h69; refine zAd 13 rfl rfl rfl rfl h69 hK ?_; refine zAd 14 rfl rfl rfl rfl h69 hK ?_; refine zAd 15 rfl rfl rfl rfl h69 hK ?_; refine zAd 16 rfl rfl rfl rfl h69 hK ?_; refine zAd 17 rfl rfl rfl rfl h69 hK ?_; refine zAd 18 rfl rfl rfl rfl h69 hK ?_; refine zAd 19 rfl rfl rfl rfl h69 hK ?_; refine zAd 20 rfl rfl rfl rfl h69 hK ?_; refine zAd 21 rfl rfl rfl rfl h69 hK ?_; refine zAd 22 rfl rfl rfl rfl h69 hK ?_; refine zA5 23 rfl rfl (fun w hs => zAj (v := .bool _) rfl h69 rfl) hK ?_; refine zAp (by kernel_rfl) ?_; clear hK; refine zBb rfl rfl ?_; refine zA6 (zA1 ?_); refine zA rfl (zA8 zCq rfl rfl (hE.cellW hs 103 (by decide) rfl)) ?_
            refine zA rfl (zA2 (v := zAq ad _) rfl) ?_; refine zA4 ?_; refine zAg ?_; refine zBl (v := zAq ad _) rfl rfl ?_
            have hr : zBh x = false := by simp [zBh, *]
            have hep : ¬ epF x.eps ≠ 0 := by simpa using h54
            have hsb : zDe x = true := by simp only [zDe, pr_get hy0, pr_get hy1]; simp; omega
            rw [mfF, if_neg (by rw [hr]; decide), if_neg hep, if_pos hsb]; exact ⟨_, rfl, RetF.bare hs.tail⟩
           ·
            intro h69; have g69 := ne_f h69; refine zAe 13 rfl rfl rfl rfl h69 (fun w hs => zA3 (o' := 4) zBx rfl sz36 rfl rfl rfl) hK ?_; refine zAe 14 rfl rfl rfl rfl h69 (fun w hs => zA8 zCx rfl rfl (hs.cellAt 0 rfl rfl)) hK ?_; refine zAe 15 rfl rfl rfl rfl h69 (fun w hs => zA0 (v := .int .i64 _) rfl) hK ?_; refine zAe 16 rfl rfl rfl rfl h69 (fun w hs => zCg rfl rfl (c := ((x.eps.length - 1 : Nat) : Int)) (by omega) (inI (by omega) (by omega))) hK ?_; refine zAe 17 rfl rfl rfl rfl h69 (fun w hs => zB0 zCx zEo rfl rfl rfl (by omega) rfl) hK ?_; refine zAe 18 rfl rfl rfl rfl h69 (fun w hs => zA3 zDk rfl sz2 rfl rfl rfl) hK ?_
            refine zAe 19 rfl rfl rfl rfl h69 (fun w hs => zA8 uz2 rfl rfl (hm.eps.cons.cell hs (zE4 hy1) (j := 1) rfl)) hK ?_; refine zAe 20 rfl rfl rfl rfl h69 (fun w hs => zA3 (o' := 2) zBx rfl sz2 rfl rfl rfl) hK ?_; refine zAe 21 rfl rfl rfl rfl h69 (fun w hs => zA8 uz2 rfl rfl (hs.cellAt 0 rfl rfl)) hK ?_; refine zAe 22 rfl rfl rfl rfl h69 (fun w hs => zDd rfl rfl) hK ?_; refine zA5 23 rfl rfl (fun w hs => zAk (v := .bool _) rfl h69 rfl) hK ?_; refine zAp (by kernel_rfl) ?_; clear hK; refine zB8 rfl ?_ ?_
            ·
             intro h81; have g81 := of_decide_eq_true h81; refine zA6 (zA1 ?_); refine zA rfl (zA8 zCq rfl rfl (hE.cellW hs 103 (by decide) rfl)) ?_; refine zA rfl (zA2 (v := zAq ad _) rfl) ?_; refine zA4 ?_; refine zAg ?_; refine zBl (v := zAq ad _) rfl rfl ?_
             have hr : zBh x = false := by simp [zBh, *]
             have hep : ¬ epF x.eps ≠ 0 := by simpa using h54
             have hsb : zDe x = true := by simp only [zDe, pr_get hy0, pr_get hy1]; simp; omega
             rw [mfF, if_neg (by rw [hr]; decide), if_neg hep, if_pos hsb]; exact ⟨_, rfl, RetF.bare hs.tail⟩
            ·
             intro h81; have g81 := of_decide_eq_false h81; refine zAf ?_; refine zA6 (zA1 ?_); refine zA rfl (zA3 (o' := 5) zBx rfl zCt rfl rfl rfl) ?_; refine zA rfl (zA8 zBp rfl rfl (hs.cellAt 0 rfl rfl)) ?_; refine zAb rfl en85 (objects_sl hE hs hm.obs.cons rfl hob) ?_; clear hs; rintro _ w ⟨eb, rfl, hs⟩; refine zA rfl (zA2 (v := flV ad _ _) rfl) ?_; refine zA4 ?_; refine zAg ?_; refine zBl (v := flV ad _ _) rfl rfl ?_
             have hr : zBh x = false := by simp [zBh, *]
             have hep : ¬ epF x.eps ≠ 0 := by simpa using h54
             have hsb : zDe x = false := by rw [zDe, pr_get hy0, pr_get hy1, decide_eq_false (show ¬ x.eps.length = 0 by omega), decide_eq_false (show ¬ y0.2 ≠ x.base by omega), decide_eq_false (show ¬ x.fin ≤ y1.2 by omega)]; rfl
             rw [mfF, if_neg (by rw [hr]; decide), if_neg hep, if_neg (by rw [hsb]; decide)]; exact ⟨_, rfl, eb, rfl, hs.arr [0] 2 (by decide)⟩
theorem sameM_sl (hs : Mem g w L) {x y : Mf} {e o e2 o2 : SA} (hx : MfR g L x e o) (hy : MfR g L y e2 o2) (h1 : x.eps.length ≤ 1000000) (h2 : x.obs.length ≤ 1000000) : Calls Tryz.prog 42 #[.agg (mfL x e o).toArray, .agg (mfL y e2 o2).toArray] w (Ret fun v w' => v = .bool (decide (x = y)) ∧ Mem g w' L) := by
  refine zAo Tryz.func42 rfl rfl ?_
  skip
  refine zA6 (zA1 ?_); refine zCj (v := .agg _) hs rfl rfl ?_; clear hs; intro b2 w hs
  try simp only [List.set_cons_succ, List.set_cons_zero] at hs
  refine zCj (v := .agg _) hs rfl rfl ?_; clear hs; intro b3 w hs
  try simp only [List.set_cons_succ, List.set_cons_zero] at hs
  refine zA rfl (zA2 (v := .bool _) rfl) ?_; refine zA4 (zA6 (zA1 ?_)); refine zA rfl (zA3 (o' := 0) zBx rfl sz3 rfl rfl rfl) ?_; refine zA rfl (zA8 uz3 rfl rfl (hs.cellAt 1 rfl rfl)) ?_; refine zA rfl (zA3 (o' := 0) zBx rfl sz3 rfl rfl rfl) ?_; refine zA rfl (zA8 uz3 rfl rfl (hs.cellAt 0 rfl rfl)) ?_; refine zA rfl (zBn rfl rfl) ?_; refine zA rfl (zA0 (v := .bool _) rfl) ?_; refine zBa (t := _) (d := 10) rfl ?_ ?_
  ·
   intro h9; have g9 := of_decide_eq_true h9; refine zAi rfl rfl h9 ?_; refine zA rfl (zA3 (o' := 1) zBx rfl sz2 rfl rfl rfl) ?_; refine zAi rfl rfl h9 ?_; refine zA rfl (zA8 uz2 rfl rfl (hs.cellAt 1 rfl rfl)) ?_; refine zAi rfl rfl h9 ?_; refine zA rfl (zA3 (o' := 1) zBx rfl sz2 rfl rfl rfl) ?_; refine zAi rfl rfl h9 ?_; refine zA rfl (zA8 uz2 rfl rfl (hs.cellAt 0 rfl rfl)) ?_; refine zAi rfl rfl h9 ?_; refine zA rfl (zBn rfl rfl) ?_; refine zA rfl (zAj (v := .bool _) rfl h9 rfl) ?_; refine zA rfl (zA0 (v := .bool _) rfl) ?_; refine zBa (t := _) (d := 17) rfl ?_ ?_
   ·
    intro h15; have g15 := of_decide_eq_true h15; refine zAi rfl rfl h15 ?_; refine zA rfl (zA3 (o' := 2) zBx rfl sz2 rfl rfl rfl) ?_; refine zAi rfl rfl h15 ?_; refine zA rfl (zA8 uz2 rfl rfl (hs.cellAt 1 rfl rfl)) ?_; refine zAi rfl rfl h15 ?_; refine zA rfl (zA3 (o' := 2) zBx rfl sz2 rfl rfl rfl) ?_; refine zAi rfl rfl h15 ?_; refine zA rfl (zA8 uz2 rfl rfl (hs.cellAt 0 rfl rfl)) ?_; refine zAi rfl rfl h15 ?_; refine zA rfl (zBn rfl rfl) ?_; refine zA rfl (zAj (v := .bool _) rfl h15 rfl) ?_; refine zA rfl (zA0 (v := .bool _) rfl) ?_; refine zBa (t := _) (d := 24) rfl ?_ ?_
    ·
     intro h22; have g22 := of_decide_eq_true h22; refine zAi rfl rfl h22 ?_; refine zA rfl (zA3 (o' := 3) zBx rfl sz2 rfl rfl rfl) ?_; refine zAi rfl rfl h22 ?_; refine zA rfl (zA8 uz2 rfl rfl (hs.cellAt 1 rfl rfl)) ?_; refine zAi rfl rfl h22 ?_; refine zA rfl (zA3 (o' := 3) zBx rfl sz2 rfl rfl rfl) ?_; refine zAi rfl rfl h22 ?_; refine zA rfl (zA8 uz2 rfl rfl (hs.cellAt 0 rfl rfl)) ?_; refine zAi rfl rfl h22 ?_; refine zA rfl (zBn rfl rfl) ?_; refine zA rfl (zAj (v := .bool _) rfl h22 rfl) ?_; refine zA rfl (zA0 (v := .bool _) rfl) ?_; refine zBa (t := _) (d := 31) rfl ?_ ?_
     ·
      intro h29; have g29 := of_decide_eq_true h29; refine zAi rfl rfl h29 ?_; refine zA rfl (zA3 (o' := 4) zBx rfl sz36 rfl rfl rfl) ?_; refine zAi rfl rfl h29 ?_; refine zA rfl (zA8 zCx rfl rfl (hs.cellAt 1 rfl rfl)) ?_; refine zAi rfl rfl h29 ?_; refine zA rfl (zA3 (o' := 4) zBx rfl sz36 rfl rfl rfl) ?_; refine zAi rfl rfl h29 ?_; refine zA rfl (zA8 zCx rfl rfl (hs.cellAt 0 rfl rfl)) ?_; refine zAi rfl rfl h29 ?_; refine zAb rfl en86 (eqPr_sl hs hx.eps.cons.cons hy.eps.cons.cons rfl rfl h1) ?_; clear hs; rintro _ w ⟨rfl, hs⟩; refine zA rfl (zAj (v := .bool _) rfl h29 rfl) ?_; refine zA rfl (zA0 (v := .bool _) rfl) ?_; refine zBa (t := _) (d := 38) rfl ?_ ?_
      ·
       intro h36; refine zAi rfl rfl h36 ?_; refine zA rfl (zA3 (o' := 5) zBx rfl zCt rfl rfl rfl) ?_; refine zAi rfl rfl h36 ?_; refine zA rfl (zA8 zBp rfl rfl (hs.cellAt 1 rfl rfl)) ?_; refine zAi rfl rfl h36 ?_; refine zA rfl (zA3 (o' := 5) zBx rfl zCt rfl rfl rfl) ?_; refine zAi rfl rfl h36 ?_; refine zA rfl (zA8 zBp rfl rfl (hs.cellAt 0 rfl rfl)) ?_; refine zAi rfl rfl h36 ?_; refine zAb rfl en87 (eqOb_sl hs hx.obs.cons.cons hy.obs.cons.cons rfl rfl h2) ?_; clear hs; rintro _ w ⟨rfl, hs⟩; refine zA rfl (zAj (v := .bool _) rfl h36 rfl) ?_; refine zA rfl (zA2 (v := .bool _) rfl) ?_; refine zA4 ?_; refine zAg ?_; refine zBl (v := .bool _) rfl rfl ?_
       exact ⟨_, rfl, zDa (by have e1 := of_decide_eq_true h36; exact decide_eq_decide.2 ⟨fun q => by obtain ⟨x1, x2, x3, x4, x5, x6⟩ := x; obtain ⟨y1, y2, y3, y4, y5, y6⟩ := y; simp only at *; subst g9 g15 g22 g29 e1 q; rfl, fun q => by rw [q]⟩), hs.tail.tail⟩
      ·
       intro h36; refine zAc rfl rfl rfl h36 ?_; refine zAc rfl rfl rfl h36 ?_; refine zAc rfl rfl rfl h36 ?_; refine zAc rfl rfl rfl h36 ?_; refine zAc rfl rfl rfl h36 ?_; refine zA rfl (zAk (v := .bool _) rfl h36 rfl) ?_; refine zA rfl (zA2 (v := .bool _) rfl) ?_; refine zA4 ?_; refine zAg ?_; refine zBl (v := .bool _) rfl rfl ?_; exact ⟨_, rfl, zDa (decide_eq_false (fun q => of_decide_eq_false h36 (by rw [q]))).symm, hs.tail.tail⟩
     ·
      intro h29; have g29 := of_decide_eq_false h29; refine zAc rfl rfl rfl h29 ?_; refine zAc rfl rfl rfl h29 ?_; refine zAc rfl rfl rfl h29 ?_; refine zAc rfl rfl rfl h29 ?_; refine zAc rfl rfl rfl h29 ?_; refine zA rfl (zAk (v := .bool _) rfl h29 rfl) ?_; refine zA rfl (zA0 (v := .bool _) rfl) ?_; refine zAc rfl rfl rfl rfl ?_; refine zAc rfl rfl rfl rfl ?_; refine zAc rfl rfl rfl rfl ?_; refine zAc rfl rfl rfl rfl ?_; refine zAc rfl rfl rfl rfl ?_; refine zA rfl (zAk (v := .bool _) rfl rfl rfl) ?_; refine zA rfl (zA2 (v := .bool _) rfl) ?_; refine zA4 ?_; refine zAg ?_; refine zBl (v := .bool _) rfl rfl ?_
      exact ⟨_, rfl, zDa (decide_eq_false (fun q => g29 (by rw [q]))).symm, hs.tail.tail⟩
    ·
     intro h22; have g22 := of_decide_eq_false h22; refine zAc rfl rfl rfl h22 ?_; refine zAc rfl rfl rfl h22 ?_; refine zAc rfl rfl rfl h22 ?_; refine zAc rfl rfl rfl h22 ?_; refine zAc rfl rfl rfl h22 ?_; refine zA rfl (zAk (v := .bool _) rfl h22 rfl) ?_; refine zA rfl (zA0 (v := .bool _) rfl) ?_; refine zAc rfl rfl rfl rfl ?_; refine zAc rfl rfl rfl rfl ?_; refine zAc rfl rfl rfl rfl ?_; refine zAc rfl rfl rfl rfl ?_; refine zAc rfl rfl rfl rfl ?_; refine zA rfl (zAk (v := .bool _) rfl rfl rfl) ?_; refine zA rfl (zA0 (v := .bool _) rfl) ?_; refine zAc rfl rfl rfl rfl ?_; refine zAc rfl rfl rfl rfl ?_; refine zAc rfl rfl rfl rfl ?_; refine zAc rfl rfl rfl rfl ?_
     refine zAc rfl rfl rfl rfl ?_; refine zA rfl (zAk (v := .bool _) rfl rfl rfl) ?_; refine zA rfl (zA2 (v := .bool _) rfl) ?_; refine zA4 ?_; refine zAg ?_; refine zBl (v := .bool _) rfl rfl ?_; exact ⟨_, rfl, zDa (decide_eq_false (fun q => g22 (by rw [q]))).symm, hs.tail.tail⟩
   ·
    intro h15; have g15 := of_decide_eq_false h15; refine zAc rfl rfl rfl h15 ?_; refine zAc rfl rfl rfl h15 ?_; refine zAc rfl rfl rfl h15 ?_; refine zAc rfl rfl rfl h15 ?_; refine zAc rfl rfl rfl h15 ?_; refine zA rfl (zAk (v := .bool _) rfl h15 rfl) ?_; refine zA rfl (zA0 (v := .bool _) rfl) ?_; refine zAc rfl rfl rfl rfl ?_; refine zAc rfl rfl rfl rfl ?_; refine zAc rfl rfl rfl rfl ?_; refine zAc rfl rfl rfl rfl ?_; refine zAc rfl rfl rfl rfl ?_; refine zA rfl (zAk (v := .bool _) rfl rfl rfl) ?_; refine zA rfl (zA0 (v := .bool _) rfl) ?_; refine zAc rfl rfl rfl rfl ?_; refine zAc rfl rfl rfl rfl ?_; refine zAc rfl rfl rfl rfl ?_; refine zAc rfl rfl rfl rfl ?_
    refine zAc rfl rfl rfl rfl ?_; refine zA rfl (zAk (v := .bool _) rfl rfl rfl) ?_; refine zA rfl (zA0 (v := .bool _) rfl) ?_; refine zAc rfl rfl rfl rfl ?_; refine zAc rfl rfl rfl rfl ?_; refine zAc rfl rfl rfl rfl ?_; refine zAc rfl rfl rfl rfl ?_; refine zAc rfl rfl rfl rfl ?_; refine zA rfl (zAk (v := .bool _) rfl rfl rfl) ?_; refine zA rfl (zA2 (v := .bool _) rfl) ?_; refine zA4 ?_; refine zAg ?_; refine zBl (v := .bool _) rfl rfl ?_; exact ⟨_, rfl, zDa (decide_eq_false (fun q => g15 (by rw [q]))).symm, hs.tail.tail⟩
  ·
   intro h9; have g9 := of_decide_eq_false h9; refine zAc rfl rfl rfl h9 ?_; refine zAc rfl rfl rfl h9 ?_; refine zAc rfl rfl rfl h9 ?_; refine zAc rfl rfl rfl h9 ?_; refine zAc rfl rfl rfl h9 ?_; refine zA rfl (zAk (v := .bool _) rfl h9 rfl) ?_; refine zA rfl (zA0 (v := .bool _) rfl) ?_; refine zAc rfl rfl rfl rfl ?_; refine zAc rfl rfl rfl rfl ?_; refine zAc rfl rfl rfl rfl ?_; refine zAc rfl rfl rfl rfl ?_; refine zAc rfl rfl rfl rfl ?_; refine zA rfl (zAk (v := .bool _) rfl rfl rfl) ?_; refine zA rfl (zA0 (v := .bool _) rfl) ?_; refine zAc rfl rfl rfl rfl ?_; refine zAc rfl rfl rfl rfl ?_; refine zAc rfl rfl rfl rfl ?_; refine zAc rfl rfl rfl rfl ?_; refine zAc rfl rfl rfl rfl ?_
   refine zA rfl (zAk (v := .bool _) rfl rfl rfl) ?_; refine zA rfl (zA0 (v := .bool _) rfl) ?_; refine zAc rfl rfl rfl rfl ?_; refine zAc rfl rfl rfl rfl ?_; refine zAc rfl rfl rfl rfl ?_; refine zAc rfl rfl rfl rfl ?_; refine zAc rfl rfl rfl rfl ?_; refine zA rfl (zAk (v := .bool _) rfl rfl rfl) ?_; refine zA rfl (zA0 (v := .bool _) rfl) ?_; refine zAc rfl rfl rfl rfl ?_; refine zAc rfl rfl rfl rfl ?_; refine zAc rfl rfl rfl rfl ?_; refine zAc rfl rfl rfl rfl ?_; refine zAc rfl rfl rfl rfl ?_; refine zA rfl (zAk (v := .bool _) rfl rfl rfl) ?_; refine zA rfl (zA2 (v := .bool _) rfl) ?_; refine zA4 ?_; refine zAg ?_; refine zBl (v := .bool _) rfl rfl ?_
   exact ⟨_, rfl, zDa (decide_eq_false (fun q => g9 (by rw [q]))).symm, hs.tail.tail⟩
theorem cloneM_sl (hs : Mem g w L) {x : Mf} {e o : SA} (hx : MfR g L x e o) (h1 : x.eps.length ≤ 1000000) (h2 : x.obs.length ≤ 1000000) : Calls Tryz.prog 43 #[.agg (mfL x e o).toArray] w (Ret fun v w' => ∃ s1 s2 : SA, v = .agg (mfL x s1 s2).toArray ∧ Mem g w' (mfP x s1 s2 ++ L)) := by
  refine zAo Tryz.func43 rfl rfl ?_
  skip
  refine zA6 (zA1 ?_); refine zCj (v := .agg _) hs rfl rfl ?_; clear hs; intro b1 w hs
  try simp only [List.set_cons_succ, List.set_cons_zero] at hs
  refine zBd hs rfl ze39 ?_; clear hs; intro b2 w hs
  try simp only [List.set_cons_succ, List.set_cons_zero] at hs
  refine zA4 ?_; refine zA6 ?_; have hM := hs.drop 1; generalize hM0 : List.eraseIdx _ 1 = M0 at hM; refine zAy zBv hM ?_; intro w tr hK; replace hs := tr _ hs; clear tr; refine zA5 0 rfl rfl (fun w hs => zA3 (o' := 4) zBx rfl sz36 rfl rfl rfl) hK ?_; refine zA5 3 rfl rfl (fun w hs => zA3 (o' := 5) zBx rfl zCt rfl rfl rfl) hK ?_; refine zA9 [1, 4] ?_; refine ⟨⟨_, rfl, ?_⟩, ⟨_, rfl, ?_⟩, trivial⟩
  ·
   refine zA rfl (zA8 zCx rfl rfl (hs.cellAt 1 rfl rfl)) ?_; clear hK; have hK := (show Mem g w M0 from by rw [← hM0]; first | exact hs.drop 1 | exact hs.tail.drop 1 | exact hs.tail.tail.drop 1); refine zA4 ⟨hK, ?_⟩; refine zA9 [2, 4] ?_; refine ⟨⟨_, rfl, ?_⟩, ⟨_, rfl, ?_⟩, trivial⟩
   ·
    refine zAb rfl en88 (clonePr_sl hs hx.eps.cons.cons rfl h1) ?_; clear hs; rintro _ w ⟨s1, rfl, hs⟩; clear hK; have hK := (show Mem g w M0 from by rw [← hM0]; first | exact hs.drop 1 | exact hs.tail.drop 1 | exact hs.tail.tail.drop 1); refine zA4 ⟨hK, ?_⟩; refine zA9 [4] ?_; refine ⟨⟨_, rfl, ?_⟩, trivial⟩; refine zA rfl (zA8 zBp rfl rfl (hs.cellAt 2 rfl rfl)) ?_; clear hK; have hK := (show Mem g w M0 from by rw [← hM0]; first | exact hs.drop 1 | exact hs.tail.drop 1 | exact hs.tail.tail.drop 1); refine zA4 ⟨hK, ?_⟩; refine zA5 6 rfl rfl (fun w hs => zA3 (o' := 4) zBx rfl sz36 rfl rfl rfl) hK ?_; refine zA9 [5] ?_; refine ⟨⟨_, rfl, ?_⟩, trivial⟩
    refine zAb rfl en89 (cloneOb_sl hs hx.obs.cons.cons.cons rfl h2) ?_; clear hs; rintro _ w ⟨s2, rfl, hs⟩; clear hK; have hK := (show Mem g w M0 from by rw [← hM0]; first | exact hs.drop 1 | exact hs.tail.drop 1 | exact hs.tail.tail.drop 1); refine zA4 ⟨hK, ?_⟩; refine zA9 [7] ?_; refine ⟨⟨_, rfl, ?_⟩, trivial⟩; refine zAr (v := .slice _ _ _) hs 3 rfl sz36 rfl rfl rfl rfl ?_; clear hs; intro w hs
    try simp only [List.set_cons_succ, List.set_cons_zero] at hs
    clear hK; have hK := (show Mem g w M0 from by rw [← hM0]; first | exact hs.drop 1 | exact hs.tail.drop 1 | exact hs.tail.tail.drop 1); refine zA4 ⟨hK, ?_⟩; refine zA5 8 rfl rfl (fun w hs => zA3 (o' := 5) zBx rfl zCt rfl rfl rfl) hK ?_; refine zA9 [9] ?_; refine ⟨⟨_, rfl, ?_⟩, trivial⟩; refine zAr (v := .slice _ _ _) hs 3 rfl zCt rfl rfl rfl rfl ?_; clear hs; intro w hs
    try simp only [List.set_cons_succ, List.set_cons_zero] at hs
    clear hK; have hK := (show Mem g w M0 from by rw [← hM0]; first | exact hs.drop 1 | exact hs.tail.drop 1 | exact hs.tail.tail.drop 1); refine zA4 ⟨hK, ?_⟩; refine zAp (by kernel_rfl) ?_; clear hK; refine zA6 (zA1 ?_); refine zA rfl (zBc hs 3 rfl zBx zDf rfl) ?_; refine zAn hs 2 rfl rfl rfl zDf rfl rfl ?_; clear hs; intro w hs
    try simp only [List.set_cons_succ, List.set_cons_zero] at hs
    refine zA4 ?_; refine zAg ?_; refine zFd [(.cell 2 39, .agg _)] rfl ⟨⟨_, rfl, zBq hs 2 rfl zBx zDf⟩, trivial⟩ ?_; exact ⟨_, rfl, s1, s2, rfl, hs.arr [1, 0] 4 (by decide)⟩
   ·
    refine zA rfl (zA8 zBp rfl rfl (hs.cellAt 1 rfl rfl)) ?_; clear hK; have hK := (show Mem g w M0 from by rw [← hM0]; first | exact hs.drop 1 | exact hs.tail.drop 1 | exact hs.tail.tail.drop 1); refine zA4 ⟨hK, ?_⟩; refine zA9 [2] ?_; refine ⟨⟨_, rfl, ?_⟩, trivial⟩; refine zAb rfl en88 (clonePr_sl hs hx.eps.cons.cons rfl h1) ?_; clear hs; rintro _ w ⟨s1, rfl, hs⟩; clear hK; have hK := (show Mem g w M0 from by rw [← hM0]; first | exact hs.drop 1 | exact hs.tail.drop 1 | exact hs.tail.tail.drop 1); refine zA4 ⟨hK, ?_⟩; refine zA5 6 rfl rfl (fun w hs => zA3 (o' := 4) zBx rfl sz36 rfl rfl rfl) hK ?_; refine zA9 [5] ?_; refine ⟨⟨_, rfl, ?_⟩, trivial⟩
    refine zAb rfl en89 (cloneOb_sl hs hx.obs.cons.cons.cons rfl h2) ?_; clear hs; rintro _ w ⟨s2, rfl, hs⟩; clear hK; have hK := (show Mem g w M0 from by rw [← hM0]; first | exact hs.drop 1 | exact hs.tail.drop 1 | exact hs.tail.tail.drop 1); refine zA4 ⟨hK, ?_⟩; refine zA9 [7] ?_; refine ⟨⟨_, rfl, ?_⟩, trivial⟩; refine zAr (v := .slice _ _ _) hs 3 rfl sz36 rfl rfl rfl rfl ?_; clear hs; intro w hs
    try simp only [List.set_cons_succ, List.set_cons_zero] at hs
    clear hK; have hK := (show Mem g w M0 from by rw [← hM0]; first | exact hs.drop 1 | exact hs.tail.drop 1 | exact hs.tail.tail.drop 1); refine zA4 ⟨hK, ?_⟩; refine zA5 8 rfl rfl (fun w hs => zA3 (o' := 5) zBx rfl zCt rfl rfl rfl) hK ?_; refine zA9 [9] ?_; refine ⟨⟨_, rfl, ?_⟩, trivial⟩; refine zAr (v := .slice _ _ _) hs 3 rfl zCt rfl rfl rfl rfl ?_; clear hs; intro w hs
    try simp only [List.set_cons_succ, List.set_cons_zero] at hs
    clear hK; have hK := (show Mem g w M0 from by rw [← hM0]; first | exact hs.drop 1 | exact hs.tail.drop 1 | exact hs.tail.tail.drop 1); refine zA4 ⟨hK, ?_⟩; refine zAp (by kernel_rfl) ?_; clear hK; refine zA6 (zA1 ?_); refine zA rfl (zBc hs 3 rfl zBx zDf rfl) ?_; refine zAn hs 2 rfl rfl rfl zDf rfl rfl ?_; clear hs; intro w hs
    try simp only [List.set_cons_succ, List.set_cons_zero] at hs
    refine zA4 ?_; refine zAg ?_; refine zFd [(.cell 2 39, .agg _)] rfl ⟨⟨_, rfl, zBq hs 2 rfl zBx zDf⟩, trivial⟩ ?_; exact ⟨_, rfl, s1, s2, rfl, hs.arr [1, 0] 4 (by decide)⟩
  ·
   refine zA rfl (zA8 zBp rfl rfl (hs.cellAt 1 rfl rfl)) ?_; clear hK; have hK := (show Mem g w M0 from by rw [← hM0]; first | exact hs.drop 1 | exact hs.tail.drop 1 | exact hs.tail.tail.drop 1); refine zA4 ⟨hK, ?_⟩; refine zA9 [1] ?_; refine ⟨⟨_, rfl, ?_⟩, trivial⟩; refine zA rfl (zA8 zCx rfl rfl (hs.cellAt 1 rfl rfl)) ?_; clear hK; have hK := (show Mem g w M0 from by rw [← hM0]; first | exact hs.drop 1 | exact hs.tail.drop 1 | exact hs.tail.tail.drop 1); refine zA4 ⟨hK, ?_⟩; refine zA9 [2] ?_; refine ⟨⟨_, rfl, ?_⟩, trivial⟩; refine zAb rfl en88 (clonePr_sl hs hx.eps.cons.cons rfl h1) ?_; clear hs; rintro _ w ⟨s1, rfl, hs⟩; clear hK
   have hK := (show Mem g w M0 from by rw [← hM0]; first | exact hs.drop 1 | exact hs.tail.drop 1 | exact hs.tail.tail.drop 1); refine zA4 ⟨hK, ?_⟩; refine zA5 6 rfl rfl (fun w hs => zA3 (o' := 4) zBx rfl sz36 rfl rfl rfl) hK ?_; refine zA9 [5] ?_; refine ⟨⟨_, rfl, ?_⟩, trivial⟩; refine zAb rfl en89 (cloneOb_sl hs hx.obs.cons.cons.cons rfl h2) ?_; clear hs; rintro _ w ⟨s2, rfl, hs⟩; clear hK; have hK := (show Mem g w M0 from by rw [← hM0]; first | exact hs.drop 1 | exact hs.tail.drop 1 | exact hs.tail.tail.drop 1); refine zA4 ⟨hK, ?_⟩; refine zA9 [7] ?_; refine ⟨⟨_, rfl, ?_⟩, trivial⟩; refine zAr (v := .slice _ _ _) hs 3 rfl sz36 rfl rfl rfl rfl ?_; clear hs; intro w hs
   try simp only [List.set_cons_succ, List.set_cons_zero] at hs
   clear hK; have hK := (show Mem g w M0 from by rw [← hM0]; first | exact hs.drop 1 | exact hs.tail.drop 1 | exact hs.tail.tail.drop 1); refine zA4 ⟨hK, ?_⟩; refine zA5 8 rfl rfl (fun w hs => zA3 (o' := 5) zBx rfl zCt rfl rfl rfl) hK ?_; refine zA9 [9] ?_; refine ⟨⟨_, rfl, ?_⟩, trivial⟩; refine zAr (v := .slice _ _ _) hs 3 rfl zCt rfl rfl rfl rfl ?_; clear hs; intro w hs
   try simp only [List.set_cons_succ, List.set_cons_zero] at hs
   clear hK; have hK := (show Mem g w M0 from by rw [← hM0]; first | exact hs.drop 1 | exact hs.tail.drop 1 | exact hs.tail.tail.drop 1); refine zA4 ⟨hK, ?_⟩; refine zAp (by kernel_rfl) ?_; clear hK; refine zA6 (zA1 ?_); refine zA rfl (zBc hs 3 rfl zBx zDf rfl) ?_; refine zAn hs 2 rfl rfl rfl zDf rfl rfl ?_; clear hs; intro w hs
   try simp only [List.set_cons_succ, List.set_cons_zero] at hs
   refine zA4 ?_; refine zAg ?_; refine zFd [(.cell 2 39, .agg _)] rfl ⟨⟨_, rfl, zBq hs 2 rfl zBx zDf⟩, trivial⟩ ?_; exact ⟨_, rfl, s1, s2, rfl, hs.arr [1, 0] 4 (by decide)⟩
theorem nextE_sl (hs : Mem g w L) (s k : Int) : Calls Tryz.prog 41 #[.int .i64 s, .int .i64 k] w (Ret fun v w' => v = .bool (nextB s k) ∧ Mem g w' L) := by
  refine zAo Tryz.func41 rfl rfl ?_
  skip
  refine zA6 (zA1 ?_); refine zA rfl (zA2 (v := .bool _) rfl) ?_; refine zA4 ?_; refine zA6 ?_; refine zA6 (zA1 ?_); refine zA rfl (zA0 (v := .int .i64 _) rfl) ?_; refine zA4 ?_; refine zAw ?_; refine zA6 (zA1 ?_); refine zA rfl (zBn rfl rfl) ?_; refine zA rfl (zA2 (v := .bool _) rfl) ?_; refine zA4 ?_; refine zB8 rfl ?_ ?_
  ·
   intro h7; have g7 := of_decide_eq_true h7; refine zA6 (zA1 ?_); refine zA rfl (zA0 (v := .int .i64 _) rfl) ?_; refine zA rfl (zBn rfl rfl) ?_; refine zA rfl (zA2 (v := .bool _) rfl) ?_; refine zA4 ?_; refine zAg ?_; refine zBl (v := .bool _) rfl rfl ?_; exact ⟨_, rfl, zDa (by rw [Bool.eq_iff_iff]; simp [nextB, *]), hs⟩
  ·
   intro h7; have g7 := of_decide_eq_false h7; refine zA6 (zA1 ?_); refine zA rfl (zBn rfl rfl) ?_; refine zA rfl (zA2 (v := .bool _) rfl) ?_; refine zA4 ?_; refine zB8 rfl ?_ ?_
   ·
    intro h11; have g11 := of_decide_eq_true h11; refine zA6 (zA1 ?_); refine zA rfl (zA0 (v := .int .i64 _) rfl) ?_; refine zA rfl (zBn rfl rfl) ?_; refine zA rfl (zA2 (v := .bool _) rfl) ?_; refine zA4 ?_; refine zAg ?_; refine zBl (v := .bool _) rfl rfl ?_; exact ⟨_, rfl, zDa (by rw [Bool.eq_iff_iff]; simp [nextB, *]), hs⟩
   ·
    intro h11; have g11 := of_decide_eq_false h11; refine zA6 (zA1 ?_); refine zA rfl (zBn rfl rfl) ?_; refine zA rfl (zA2 (v := .bool _) rfl) ?_; refine zA4 ?_; refine zB8 rfl ?_ ?_
    ·
     intro h15; have g15 := of_decide_eq_true h15; refine zA6 (zA1 ?_); refine zA rfl (zA0 (v := .int .i64 _) rfl) ?_; refine zA rfl (zBn rfl rfl) ?_; refine zA rfl (zA0 (v := .bool _) rfl) ?_; refine zBa (t := _) (d := 18) rfl ?_ ?_
     ·
      intro h17; have g17 := of_decide_eq_true h17; refine zAc rfl rfl rfl h17 ?_; refine zAc rfl rfl rfl h17 ?_; refine zA rfl (zAj (v := .bool _) rfl h17 rfl) ?_; refine zA rfl (zA2 (v := .bool _) rfl) ?_; refine zA4 ?_; refine zAg ?_; refine zBl (v := .bool _) rfl rfl ?_; exact ⟨_, rfl, zDa (by rw [Bool.eq_iff_iff]; simp [nextB, *]), hs⟩
     ·
      intro h17; have g17 := of_decide_eq_false h17; refine zAi rfl rfl h17 ?_; refine zA rfl (zA0 (v := .int .i64 _) rfl) ?_; refine zAi rfl rfl h17 ?_; refine zA rfl (zBn rfl rfl) ?_; refine zA rfl (zAk (v := .bool _) rfl h17 rfl) ?_; refine zA rfl (zA2 (v := .bool _) rfl) ?_; refine zA4 ?_; refine zAg ?_; refine zBl (v := .bool _) rfl rfl ?_; exact ⟨_, rfl, zDa (by rw [Bool.eq_iff_iff]; simp [nextB, *]), hs⟩
    ·
     intro h15; have g15 := of_decide_eq_false h15; refine zA6 (zA1 ?_); refine zA rfl (zBn rfl rfl) ?_; refine zA rfl (zA2 (v := .bool _) rfl) ?_; refine zA4 ?_; refine zB8 rfl ?_ ?_
     ·
      intro h23; have g23 := of_decide_eq_true h23; refine zA6 (zA1 ?_); refine zA rfl (zA0 (v := .int .i64 _) rfl) ?_; refine zA rfl (zBn rfl rfl) ?_; refine zA rfl (zA2 (v := .bool _) rfl) ?_; refine zA4 ?_; refine zAg ?_; refine zBl (v := .bool _) rfl rfl ?_; exact ⟨_, rfl, zDa (by rw [Bool.eq_iff_iff]; simp [nextB, *]), hs⟩
     ·
      intro h23; have g23 := of_decide_eq_false h23; refine zAf ?_; refine zA6 (zA1 ?_); refine zA rfl (zA2 (v := .bool _) rfl) ?_; refine zA4 ?_; refine zAg ?_; refine zBl (v := .bool _) rfl rfl ?_; exact ⟨_, rfl, zDa (by rw [Bool.eq_iff_iff]; simp [nextB, *]), hs⟩
end Go.Proofs.YtdkgdjnbpjjfmaaGreatDoor
namespace Go.Proofs.YtdkgdjnbpjjfmaaGreatDoor
set_option linter.all false

theorem al_key {κ α : Type} [DecidableEq κ] {l : List (κ × α)} {k : κ} {v : α} (h : zB5 l k = some v) : k ∈ zAl l := List.mem_map_of_mem (zDx h)
theorem zG1 {κ α : Type} [DecidableEq κ] {l : List (κ × α)} {k : κ} (h : k ∈ zAl l) : ∃ v, zB5 l k = some v := by
  cases hc : zB5 l k with
  | some v => exact ⟨v, rfl⟩
  | none => exact absurd h ((zBe _ _).1 hc)
theorem al_in {κ α : Type} [DecidableEq κ] {l : List (κ × α)} {k : κ} {v : α} {x : κ × α} (h : x ∈ zCd l k v) : x = (k, v) ∨ x ∈ l := by
  induction l with
  | nil => simp [zCd] at h; exact .inl h
  | cons y l ih =>
    obtain ⟨a, b⟩ := y; simp only [zCd] at h
    split at h
    · rcases List.mem_cons.1 h with h | h
      · exact .inl h
      · exact .inr (List.mem_cons_of_mem _ h)
    · rcases List.mem_cons.1 h with h | h
      · exact .inr (by rw [h]; exact List.mem_cons_self ..)
      · rcases ih h with h | h
        · exact .inl h
        · exact .inr (List.mem_cons_of_mem _ h)
theorem al_end {κ α : Type} [DecidableEq κ] {l : List (κ × α)} {k : κ} {v : α} (h : zB5 l k = none) : zCd l k v = l ++ [(k, v)] := by
  rw [zBe] at h
  induction l with
  | nil => rfl
  | cons x l ih =>
    obtain ⟨a, b⟩ := x; simp only [zAl, List.map_cons, List.mem_cons, not_or] at h; simp only [List.cons_append, zCd]; rw [if_neg (fun e => h.1 e.symm), ih h.2]
theorem al_len {κ α : Type} [DecidableEq κ] {l : List (κ × α)} {k : κ} {v u : α} (h : zB5 l k = some u) : (zCd l k v).length = l.length := by
  have := congrArg List.length (show zAl (zCd l k v) = zAl l by rw [zGe, if_pos (al_key h)])
  simpa [zAl] using this
theorem al_del {κ α : Type} [DecidableEq κ] : ∀ {l : List (κ × α)} {k : κ} {v : α}, zB5 l k = some v → (zE8 l k).length + 1 = l.length
  | (a, b) :: l, k, v, h => by
    simp only [zB5] at h; simp only [zE8]
    split at h
    · rename_i e; rw [if_pos e]; simp
    · rename_i e; rw [if_neg e]; have := al_del h; simpa using this

/-! ### apply -/
variable {V : Vw} {k : Int} {x : Mf}
theorem Vw.ok_nil : Vw.ok [] := ⟨List.nodup_nil, (fun x h => by cases h), by simp⟩
/-- The cases of an entry. -/
theorem Vw.apply_ok (h : V.ok) (k : Int) (x : Mf) : (V.apply k x).2.ok := by
  unfold Vw.apply
  split
  · exact h
  · rename_i h1
    have h1 : (mfF x).1 = 0 := by simpa using h1
    split
    · exact h
    · rename_i h2
      split
      · exact h
      · split
        · rename_i hn
          split
          · exact h
          · rename_i h4
            refine ⟨nodup_put h.nd _ _, fun y hy => ?_, ?_⟩
            · rcases al_in hy with rfl | hy
              · exact ⟨h1, rfl, by show 1 ≤ k; omega, by show k ≤ 4; omega⟩
              · exact h.fine y hy
            · show (zCd V x.id ⟨k, x⟩).length ≤ 4096
              rw [al_end hn]; simp only [List.length_append, List.length_cons, List.length_nil]
              omega
        · rename_i i hi
          split
          · refine ⟨nodup_put h.nd _ _, fun y hy => ?_, ?_⟩
            · rcases al_in hy with rfl | hy
              · exact ⟨h1, rfl, by show 1 ≤ k; omega, by show k ≤ 4; omega⟩
              · exact h.fine y hy
            · show (zCd V x.id ⟨k, x⟩).length ≤ 4096
              rw [al_len hi]; exact h.few
          · exact h
/-- A fault of a view's. -/
theorem Vw.apply_flt (V : Vw) (k : Int) (x : Mf) : ((V.apply k x).1 = (0, none) ∨ (V.apply k x).1.1 ∈ [103, 104, 105, 106, 112, 113]) ∧ ((V.apply k x).1.2 = none ∨ (V.apply k x).1.1 ∈ [105, 106]) := by
  unfold Vw.apply
  split
  · have := mfF_ok x
    refine ⟨this.1.imp id fun h => ?_, this.2⟩
    show (mfF x).1 ∈ _
    revert h
    simp only [List.mem_cons, List.not_mem_nil, or_false]
    omega
  · split
    · exact ⟨.inr (by simp), .inl rfl⟩
    · split
      · exact ⟨.inr (by simp), .inl rfl⟩
      · split
        · split
          · exact ⟨.inr (by simp), .inl rfl⟩
          · exact ⟨.inl rfl, .inl rfl⟩
        · split
          · exact ⟨.inl rfl, .inl rfl⟩
          · exact ⟨.inr (by simp), .inl rfl⟩
end Go.Proofs.YtdkgdjnbpjjfmaaGreatDoor
namespace Go.Proofs.YtdkgdjnbpjjfmaaGreatDoor
set_option linter.all false
open Go.RowKit
attribute [local irreducible] zAq
variable {g w : World} {L M : List HP} {ad : Nat → Addr} {p : Nat} {V : Vw}

section
variable {P : Program} {ρ : Env} {dst : Option Tmp} {ty : TypeId} {pos : String} {aft : Array Edge} {x : Operand}
theorem run_lenM {κ : Type} {enc : κ → Value} {m : Nat} {es : List (κ × Value)} {t kt et : TypeId} (hm : zFe w enc m es) (ht : P.underlying t = some (.map kt et)) (hx : ev ρ x = .map (some m)) : (execOp (ev ρ) ⟨dst, .call { callee := .builtin .len, args := #[x], argTypes := #[t] }, ty, pos, aft, none⟩).run P w = .ok (.value (.int .i64 es.length)) w := by
  obtain ⟨arr, clock, hb, he, _⟩ := hm
  have hl : arr.size = es.length := by have := congrArg List.length he; simpa using this
  simp [execOp, resolve, invoke, builtin, Builtin.len_, run_underlying ht, hx, goInt, MapKept.run_getObj_map hb, hl]
end
theorem itm_inj {i : Itm} {e o e' o' : SA} (h : itmV i e o = itmV i e' o') : e = e' ∧ o = o' := by
  simp only [itmV, mfL, Value.agg.injEq, Array.mk.injEq, List.cons.injEq, Value.slice.injEq, true_and, and_true] at h
  obtain ⟨a, b⟩ := e; obtain ⟨c, d⟩ := o; obtain ⟨a', b'⟩ := e'; obtain ⟨c', d'⟩ := o'
  simp only at h; obtain ⟨⟨rfl, rfl⟩, rfl, rfl⟩ := h; exact ⟨rfl, rfl⟩
/-- What is known of a segment of a view. -/
theorem Mem.itmAt {es : List (Int × Value)} (hs : Mem g w L) (k : Nat) (hk : L[k]? = some (famC itmC es V)) {id : Int} {i : Itm} (hV : zB5 V id = some i) : ∃ e o, zB5 es id = some (itmV i e o) ∧ MfR g L i.m e o := by
  obtain ⟨v, hv⟩ := fam_some (hs.famKeys k hk) hV; have h1 := hs.famTake k hk hv hV; obtain ⟨e, o, rfl, _⟩ := h1.openItm; refine ⟨e, o, hv, ⟨Ens.fam k hk hv hV fun F w h => ?_, Ens.fam k hk hv hV fun F w h => ?_⟩⟩
  · obtain ⟨⟨e', o'⟩, h2, h3⟩ := h
    obtain ⟨rfl, rfl⟩ := itm_inj h3; obtain ⟨F1, F2, h4, _⟩ := h2; exact h4.1.rows
  · obtain ⟨⟨e', o'⟩, h2, h3⟩ := h
    obtain ⟨rfl, rfl⟩ := itm_inj h3; obtain ⟨F1, F2, _, h5, _⟩ := h2; obtain ⟨F3, F4, h6, _⟩ := h5; exact h6.1.rows
theorem mf_len {x : Mf} (h : (mfF x).1 = 0) : x.eps.length ≤ 256 ∧ x.obs.length ≤ 8 := by
  unfold mfF at h
  split at h
  · cases h
  · split at h
    · rename_i h1; exact absurd h h1
    · rename_i h1
      split at h
      · cases h
      · refine ⟨epF_len (by simpa using h1), ?_⟩
        unfold obF at h
        split at h
        · cases h
        · omega
theorem Vw.ok.item (h : V.ok) {id : Int} {i : Itm} (hi : zB5 V id = some i) : (mfF i.m).1 = 0 ∧ i.m.id = id ∧ 1 ≤ i.st ∧ i.st ≤ 4 ∧ i.m.obs.length ≤ 8 ∧ i.m.eps.length ≤ 256 := by
  have h1 := h.fine _ (zDx hi); have h2 := mf_len h1.1; exact ⟨h1.1, h1.2.1, h1.2.2.1, h1.2.2.2, h2.2, h2.1⟩
theorem newv_sl (hs : Mem g w L) : Calls Tryz.prog 11 #[] w (Ret fun v w' => ∃ p, v = .pointer (some ⟨p, 0, none⟩) ∧ Mem g w' (zFm p [] :: L)) := by
  refine zAo Tryz.func11 rfl rfl ?_
  skip
  refine zA6 (zA1 ?_); refine zA rfl (zA2 (v := .pointer none) rfl) ?_; refine zA4 (zA6 (zA1 ?_)); refine lw_makeMap (Value.int .i64) hs rfl ?_; clear hs; intro m1 w hs
  try simp only [List.set_cons_succ, List.set_cons_zero] at hs
  refine zA rfl (zB3 ([.map (some m1)]) uz79 ze79 pl79 rfl (by simp [Value.cells]) rfl rfl) ?_; refine zCj (v := .agg _) hs rfl rfl ?_; clear hs; intro b3 w hs
  try simp only [List.set_cons_succ, List.set_cons_zero] at hs
  refine zA rfl (zA2 (v := .pointer (some _)) rfl) ?_; refine zA4 ?_; refine zAg ?_; refine zBl (v := .pointer (some _)) rfl rfl ?_; exact ⟨_, rfl, b3, rfl, Mem.closeV (es := []) Vw.ok_nil ((hs.addE (famC_nil (R := itmC) (κ := Int) _)).arr [1, 2, 0] 3 (by decide))⟩
/-! ### Refers -/
/-- Segments that have not been looked at. -/
structure RfI (V : Vw) (es left : List (Int × Value)) (n : ByteArray) : Prop where
  nd : (zAl left).Nodup
  sub : ∀ k v, zB5 left k = some v → zB5 es k = some v
  seen : ∀ k i, zB5 V k = some i → zB5 left k = none → refersB i n = false
theorem RfI.step {es left : List (Int × Value)} {n : ByteArray} (h : RfI V es left n) {k : Int} {i : Itm} (hV : zB5 V k = some i) (hr : refersB i n = false) : RfI V es (zE8 left k) n := by
  refine ⟨nodup_del h.nd k, fun j v hj => ?_, fun j u hu hj => ?_⟩
  · by_cases e : j = k
    · subst e; rw [zEv h.nd] at hj; cases hj
    · rw [zCk _ e] at hj; exact h.sub j v hj
  · by_cases e : j = k
    · subst e; rw [hV] at hu; cases hu; exact hr
    · rw [zCk _ e] at hj; exact h.seen j u hu hj
end Go.Proofs.YtdkgdjnbpjjfmaaGreatDoor
namespace Go.Proofs.YtdkgdjnbpjjfmaaGreatDoor
set_option linter.all false
open Go.RowKit
variable {g w : World} {L M : List HP} {ad : Nat → Addr} {p : Nat}

theorem fill_km (k a b c d : Int) (e o : SA) (n m : Nat) : Instr.fill ((#[(0, 1), (1, 6)] : Array (Nat × Nat))[·]?) #[.int .i64 0, .int .i64 0, .int .i64 0, .int .i64 0, .int .i64 0, .slice none 0 0, .slice none 0 0] [(0, .int .i64 k), (1, .agg #[.int .i64 a, .int .i64 b, .int .i64 c, .int .i64 d, .slice e.1 n e.2, .slice o.1 m o.2])] = some #[.int .i64 k, .int .i64 a, .int .i64 b, .int .i64 c, .int .i64 d, .slice e.1 n e.2, .slice o.1 m o.2] := by
  kernel_rfl
variable {ρ : Env} {dst : Option Tmp} {ty : TypeId} {pos : String} {aft : Array Edge} {x y : Operand}
theorem zG9 {P : Program} {t : TypeId} {fs : Array Field} {k : Int} {m : Mf} {e o : SA} (ht : P.underlying t = some (.struct fs)) (hz : (P.info? t).map (·.zero) = some (some (.agg #[.int .i64 0, .int .i64 0, .int .i64 0, .int .i64 0, .int .i64 0, .slice none 0 0, .slice none 0 0])))
    (hp : ∀ w, (fs.mapM (m := Sem) fun f => do pure (f.offset, ← sizeOf f.type)).run P w = .ok #[(0, 1), (1, 6)] w) (hx : ev ρ x = .int .i64 k) (hy : ev ρ y = .agg (mfL m e o).toArray) :
    (execOp (ev ρ) ⟨dst, .build t #[(0, x), (1, y)], ty, pos, aft, none⟩).run P w = .ok (.value (.agg (.int .i64 k :: mfL m e o).toArray)) w := by
  refine zC3 (ps := [(0, x), (1, y)]) ht hz hp ?_; simp only [List.map_cons, List.map_nil, hx, hy]; exact fill_km k m.id m.base m.fin m.time e o _ _
end Go.Proofs.YtdkgdjnbpjjfmaaGreatDoor
namespace Go.Proofs.YtdkgdjnbpjjfmaaGreatDoor
set_option linter.all false
open Go.RowKit
attribute [local irreducible] zAq
variable {g w : World} {L M : List HP} {ad : Nat → Addr} {p : Nat} {V : Vw}

/-- What Apply answers and leaves. -/
def ApR (g : World) (ad : Nat → Addr) (L : List HP) (p : Nat) (r : Flt × Vw) (v : Value) (w' : World) : Prop := ∃ eb, v = flV ad r.1 eb ∧ Mem g w' (flC ad r.1 eb :: zFm p r.2 :: L)
theorem ApR.bare {c : Nat} (hs : Mem g w (zFm p V :: L)) : ApR g ad L p ((c, none), V) (zAq ad c) w := ⟨0, rfl, hs.addE (zEd w)⟩
theorem Vw.apply_bad {k : Int} {x : Mf} (h : (mfF x).1 ≠ 0) : V.apply k x = (mfF x, V) := by rw [Vw.apply, if_pos h]
theorem Vw.apply_kind {k : Int} {x : Mf} (h : (mfF x).1 = 0) (h2 : k < 1 ∨ 4 < k) : V.apply k x = ((112, none), V) := by rw [Vw.apply, if_neg (by simpa using h), if_pos h2]
theorem Vw.apply_state {k : Int} {x : Mf} (h : (mfF x).1 = 0) (h2 : ¬ (k < 1 ∨ 4 < k)) (h3 : nextB (V.state x.id) k = false) : V.apply k x = ((113, none), V) := by rw [Vw.apply, if_neg (by simpa using h), if_neg h2, if_pos h3]
theorem Vw.apply_new {k : Int} {x : Mf} (h : (mfF x).1 = 0) (h2 : ¬ (k < 1 ∨ 4 < k)) (h3 : nextB (V.state x.id) k = true) (hV : zB5 V x.id = none) : V.apply k x = if 4096 ≤ V.length then ((104, none), V) else ((0, none), zCd V x.id ⟨k, x⟩) := by rw [Vw.apply, if_neg (by simpa using h), if_neg h2, if_neg (by rw [h3]; decide), hV]
theorem Vw.apply_old {k : Int} {x : Mf} {i : Itm} (h : (mfF x).1 = 0) (h2 : ¬ (k < 1 ∨ 4 < k)) (h3 : nextB (V.state x.id) k = true) (hV : zB5 V x.id = some i) : V.apply k x = if i.m = x then ((0, none), zCd V x.id ⟨k, x⟩) else ((103, none), V) := by rw [Vw.apply, if_neg (by simpa using h), if_neg h2, if_neg (by rw [h3]; decide), hV]
theorem flt0 {f : Flt} (hf : FltOk f) (h : f.1 = 0) : f = (0, none) := by
  rcases hf.1 with h1 | h1
  · exact h1
  · rw [h] at h1; simp at h1
set_option maxHeartbeats 1000000 in
theorem apply_sl (hE : ErrV ad g) (hs : Mem g w (zFm p V :: L)) (k : Int) {x : Mf} {e o : SA} (hm : MfR g L x e o) (hob : x.obs.length ≤ 1000000) : Calls Tryz.prog 14 #[.pointer (some ⟨p, 0, none⟩), .agg (.int .i64 k :: mfL x e o).toArray] w (Ret (ApR g ad L p (V.apply k x))) := by
  obtain ⟨ho, m, es, hs⟩ := hs.openV; simp only [viewP, List.cons_append, List.nil_append] at hs; have hke := hs.famKeys 2 rfl
  cases hV : zB5 V x.id with
  | none =>
    have hes := fam_none hke hV
    have hst : V.state x.id = 0 := by simp [Vw.state, hV]
    refine zAo Tryz.func14 rfl rfl ?_
    skip
    refine zA6 (zA1 ?_); refine zCj (v := .agg _) hs rfl rfl ?_; clear hs; intro b3 w hs
    try simp only [List.set_cons_succ, List.set_cons_zero] at hs
    refine zA rfl (zA2 (v := .nilIface) rfl) ?_; refine zA4 ?_; refine zA6 ?_; refine zA6 (zA1 ?_); refine zA rfl (zA3 (o' := 1) zEa rfl zDf rfl rfl rfl) ?_; refine zA rfl (zCw hs 0 (mfL x e o) rfl zBx zDf rfl rfl) ?_; refine zAb rfl en40 (validM_sl hE hs hm.cons.cons.cons.cons hob) ?_; clear hs; rintro _ w ⟨eb, rfl, hs⟩; refine zA rfl (zA2 (v := flV ad _ _) rfl) ?_; refine zA4 (zA6 (zA1 ?_)); refine zA rfl (zA0 (v := flV ad _ _) rfl) ?_; refine zA rfl (zF7 (mfF_ok x).place rfl) ?_; refine zA4 ?_; refine zB8 rfl ?_ ?_
    ·
     intro h12; have g12 := ne_t h12; refine zA6 (zA1 ?_); refine zA rfl (zA0 (v := flV ad _ _) rfl) ?_; refine zA rfl (zA2 (v := flV ad _ _) rfl) ?_; refine zA4 ?_; refine zAg ?_; refine zBl (v := flV ad _ _) rfl rfl ?_
     have h0 : (mfF x).1 ≠ 0 := by simpa using h12
     rw [Vw.apply_bad h0]; exact ⟨_, rfl, eb, rfl, Mem.closeV1 ho (hs.arr [0, 2, 3, 4] 5 (by decide))⟩
    ·
     intro h12; have g12 := ne_f h12
     have h0 : (mfF x).1 = 0 := by simpa using h12
     replace hs := hs.tail; refine zAf ?_; refine zA6 ?_; refine zA6 (zA1 ?_); refine zA rfl (zA3 (o' := 0) zEa rfl sz3 rfl rfl rfl) ?_; refine zA rfl (zA8 uz3 rfl rfl (hs.cellAt 0 rfl rfl)) ?_; refine zA rfl (zB7 rfl rfl) ?_; refine zA rfl (zA0 (v := .bool _) rfl) ?_; refine zBa (t := _) (d := 17) rfl ?_ ?_
     ·
      intro h16; have g16 := of_decide_eq_true h16; refine zAc rfl rfl rfl h16 ?_; refine zAc rfl rfl rfl h16 ?_; refine zAc rfl rfl rfl h16 ?_; refine zA rfl (zAj (v := .bool _) rfl h16 rfl) ?_; refine zA4 ?_; refine zBb rfl rfl ?_; refine zA6 (zA1 ?_); refine zA rfl (zA8 zCq rfl rfl (hE.cellW hs 112 (by decide) rfl)) ?_; refine zA rfl (zA2 (v := zAq ad _) rfl) ?_; refine zA4 ?_; refine zAg ?_; refine zBl (v := zAq ad _) rfl rfl ?_; rw [Vw.apply_kind h0 (by omega)]; exact ⟨_, rfl, ApR.bare (Mem.closeV ho hs.tail)⟩
     ·
      intro h16; have g16 := of_decide_eq_false h16; refine zAi rfl rfl h16 ?_; refine zA rfl (zA3 (o' := 0) zEa rfl sz3 rfl rfl rfl) ?_; refine zAi rfl rfl h16 ?_; refine zA rfl (zA8 uz3 rfl rfl (hs.cellAt 0 rfl rfl)) ?_; refine zAi rfl rfl h16 ?_; refine zA rfl (zBi rfl rfl) ?_; refine zA rfl (zAk (v := .bool _) rfl h16 rfl) ?_; refine zA4 ?_; refine zB8 rfl ?_ ?_
      ·
       intro h20; have g20 := of_decide_eq_true h20; refine zA6 (zA1 ?_); refine zA rfl (zA8 zCq rfl rfl (hE.cellW hs 112 (by decide) rfl)) ?_; refine zA rfl (zA2 (v := zAq ad _) rfl) ?_; refine zA4 ?_; refine zAg ?_; refine zBl (v := zAq ad _) rfl rfl ?_; rw [Vw.apply_kind h0 (by omega)]; exact ⟨_, rfl, ApR.bare (Mem.closeV ho hs.tail)⟩
      ·
       intro h20; have g20 := of_decide_eq_false h20; refine zAf ?_; refine zA6 ?_; refine zAy zBv hs ?_; intro w tr hK; replace hs := tr _ hs; clear tr; refine zA5 0 rfl rfl (fun w hs => zA0 (v := .pointer (some _)) rfl) hK ?_; refine zA5 1 rfl rfl (fun w hs => zA7 rfl) hK ?_; refine zA5 2 rfl rfl (fun w hs => zA3 (o' := 0) uz79 rfl sz77 rfl rfl rfl) hK ?_; refine zA5 3 rfl rfl (fun w hs => zA8 uz77 rfl rfl (hs.cellAt 1 rfl rfl)) hK ?_; refine zA5 4 rfl rfl (fun w hs => zA3 (o' := 1) zEa rfl zDf rfl rfl rfl) hK ?_; refine zA5 5 rfl rfl (fun w hs => zA3 zBx rfl sz3 rfl rfl rfl) hK ?_; refine zA5 6 rfl rfl (fun w hs => zA8 uz3 rfl rfl (hs.cellAt 0 rfl rfl)) hK ?_
       refine zA5 7 rfl rfl (fun w hs => zFl (hs.mapAt 2 rfl) zF8 uz77 uz3 ze85 rfl rfl (o := none) hes) hK ?_; refine zA5 8 rfl rfl (fun w hs => zA0 (v := .tuple _) rfl) hK ?_; refine zA5 9 rfl rfl (fun w hs => zAa (v := .agg _) rfl rfl) hK ?_; refine zA5 10 rfl rfl (fun w hs => zAa (v := .bool _) rfl rfl) hK ?_; refine zA9 [11] ?_; refine ⟨⟨_, rfl, ?_⟩, trivial⟩; refine zBd hs rfl ze85 ?_; clear hs; intro b6 w hs
       try simp only [List.set_cons_succ, List.set_cons_zero] at hs
       clear hK; have hK := hs.tail; refine zA4 ⟨hK, ?_⟩; refine zA9 [12] ?_; refine ⟨⟨_, rfl, ?_⟩, trivial⟩; refine zAn hs 0 rfl rfl rfl sz85 rfl rfl ?_; clear hs; intro w hs
       try simp only [List.set_cons_succ, List.set_cons_zero] at hs
       clear hK; have hK := hs.tail; refine zA4 ⟨hK, ?_⟩; refine zA5 13 rfl rfl (fun w hs => zA2 (v := .bool _) rfl) hK ?_; refine zAp (by kernel_rfl) ?_; clear hK; refine zA6 ?_; refine zAw ?_; refine zA6 (zA1 ?_); refine zA rfl (zA3 (o' := 0) uz85 rfl sz3 rfl rfl rfl) ?_; refine zA rfl (zA8 uz3 rfl rfl (hs.cellAt 0 rfl rfl)) ?_; refine zA rfl (zA3 (o' := 0) zEa rfl sz3 rfl rfl rfl) ?_; refine zA rfl (zA8 uz3 rfl rfl (hs.cellAt 1 rfl rfl)) ?_; refine zAb rfl en41 (nextE_sl hs 0 k) ?_; clear hs; rintro _ w ⟨rfl, hs⟩; refine zA rfl (zC4 rfl) ?_; refine zA rfl (zA2 (v := .bool _) rfl) ?_; refine zA4 ?_; refine zB8 rfl ?_ ?_
       ·
        intro h39; replace h39 := zFu h39; refine zA6 (zA1 ?_); refine zA rfl (zA8 zCq rfl rfl (hE.cellW hs 113 (by decide) rfl)) ?_; refine zA rfl (zA2 (v := zAq ad _) rfl) ?_; refine zA4 ?_; refine zAg ?_; refine zBl (v := zAq ad _) rfl rfl ?_; rw [Vw.apply_state h0 (by omega) (by rw [hst]; exact h39)]; exact ⟨_, rfl, ApR.bare (Mem.closeV ho hs.tail.tail)⟩
       ·
        intro h39; replace h39 := zEs h39; refine zA6 (zA1 ?_); refine zA rfl (zA0 (v := .bool _) rfl) ?_; refine zA rfl (zC4 rfl) ?_; refine zA rfl (zA0 (v := .bool _) rfl) ?_; refine zAi rfl rfl (zCn (rfl)) ?_; refine zA rfl (zA0 (v := .pointer (some _)) rfl) ?_; refine zAi rfl rfl (zCn (rfl)) ?_; refine zA rfl (zA7 rfl) ?_; refine zAi rfl rfl (zCn (rfl)) ?_; refine zA rfl (zA3 (o' := 0) uz79 rfl sz77 rfl rfl rfl) ?_; refine zAi rfl rfl (zCn (rfl)) ?_; refine zA rfl (zA8 uz77 rfl rfl (hs.cellAt 2 rfl rfl)) ?_; refine zAi rfl rfl (zCn (rfl)) ?_; refine zA rfl (run_lenM (hs.mapAt 3 rfl) uz77 rfl) ?_; refine zAi rfl rfl (zCn (rfl)) ?_; refine zA rfl (zDd rfl rfl) ?_
        refine zA rfl (zAj (v := .bool _) rfl (zCn (rfl)) rfl) ?_; refine zA rfl (zA2 (v := .bool _) rfl) ?_; refine zA4 ?_; refine zB8 rfl ?_ ?_
        ·
         intro h51; have g51 := of_decide_eq_true h51; refine zA6 (zA1 ?_); refine zA rfl (zA8 zCq rfl rfl (hE.cellW hs 104 (by decide) rfl)) ?_; refine zA rfl (zA2 (v := zAq ad _) rfl) ?_; refine zA4 ?_; refine zAg ?_; refine zBl (v := zAq ad _) rfl rfl ?_; have hl := keys_len hke; rw [Vw.apply_new h0 (by omega) (by rw [hst]; exact h39) hV, if_pos (by omega)]; exact ⟨_, rfl, ApR.bare (Mem.closeV ho hs.tail.tail)⟩
        ·
         intro h51; have g51 := of_decide_eq_false h51; refine zA6 (zA1 ?_); refine zA rfl (zA0 (v := .bool _) rfl) ?_; refine zA rfl (zA0 (v := .bool _) rfl) ?_; refine zAc rfl rfl rfl (rfl) ?_; refine zAc rfl rfl rfl (rfl) ?_; refine zAc rfl rfl rfl (rfl) ?_; refine zAc rfl rfl rfl (rfl) ?_; refine zAc rfl rfl rfl (rfl) ?_; refine zAc rfl rfl rfl (rfl) ?_; refine zA rfl (zAk (v := .bool _) rfl (rfl) rfl) ?_; refine zA rfl (zA2 (v := .bool _) rfl) ?_; refine zA4 ?_; refine zAx rfl rfl ?_; refine zAf ?_; refine zA6 ?_; refine zAy zBv (hs.drop 3) ?_; intro w tr hK; replace hs := tr _ hs; clear tr; refine zA5 0 rfl rfl (fun w hs => zA0 (v := .pointer (some _)) rfl) hK ?_
         refine zA5 1 rfl rfl (fun w hs => zA7 rfl) hK ?_; refine zA5 2 rfl rfl (fun w hs => zA3 (o' := 0) uz79 rfl sz77 rfl rfl rfl) hK ?_; refine zA5 3 rfl rfl (fun w hs => zA8 uz77 rfl rfl (hs.cellAt 2 rfl rfl)) hK ?_; refine zA5 4 rfl rfl (fun w hs => zA3 (o' := 1) zEa rfl zDf rfl rfl rfl) hK ?_; refine zA5 5 rfl rfl (fun w hs => zA3 zBx rfl sz3 rfl rfl rfl) hK ?_; refine zA5 6 rfl rfl (fun w hs => zA8 uz3 rfl rfl (hs.cellAt 1 rfl rfl)) hK ?_; refine zA5 7 rfl rfl (fun w hs => zA3 (o' := 0) zEa rfl sz3 rfl rfl rfl) hK ?_; refine zA5 8 rfl rfl (fun w hs => zA8 uz3 rfl rfl (hs.cellAt 1 rfl rfl)) hK ?_; refine zA5 9 rfl rfl (fun w hs => zA3 (o' := 1) zEa rfl zDf rfl rfl rfl) hK ?_
         refine zA5 10 rfl rfl (fun w hs => zCw hs 1 (mfL x e o) rfl zBx zDf rfl rfl) hK ?_; refine zA9 [11] ?_; refine ⟨⟨_, rfl, ?_⟩, trivial⟩; refine zAb rfl en43 (cloneM_sl hs hm.cons.cons.cons.cons.cons (by have := mf_len h0; omega) (by have := mf_len h0; omega)) ?_; clear hs; rintro _ w ⟨s1, s2, rfl, hs⟩; clear hK; have hK := hs.tail.tail.drop 3; refine zA4 ⟨hK, ?_⟩; refine @aw_take _ _ _ _ _ _ _ _ _ _ _ _ _ _ 12 _ rfl (by kernel_rfl) (by kernel_rfl) (by kernel_rfl) rfl (fun w hs => zG9 (k := k) (m := x) (e := s1) (o := s2) uz85 ze85 pl85 rfl rfl) hK ?_; refine zA9 [13] ?_; refine ⟨⟨_, rfl, ?_⟩, trivial⟩; refine zE0 (v := .agg _) hs 5 rfl zF8 uz77 uz3 rfl rfl rfl ?_; clear hs
         intro w hs
         try simp only [List.set_cons_succ, List.set_cons_zero] at hs
         clear hK; have hK := hs.tail.tail.drop 3; refine zA4 ⟨hK, ?_⟩; refine zAp (by kernel_rfl) ?_; clear hK; refine zA6 (zA1 ?_); refine zA rfl (zA2 (v := .nilIface) rfl) ?_; refine zA4 ?_; refine zAg ?_; refine zBl (v := .nilIface) rfl rfl ?_; rw [Vw.apply_new h0 (by omega) (by rw [hst]; exact h39) hV, if_neg (by have := keys_len hke; omega)]; have h1 := Mem.closeItm (i := ⟨k, x⟩) (hs.arr [0, 1, 4, 5, 6] 7 (by decide)); have h2 := Mem.famPut (R := itmC) (k := x.id) h1 2 rfl (fun _ h => False.elim h); have hok := Vw.apply_ok ho k x; rw [Vw.apply_new h0 (by omega) (by rw [hst]; exact h39) hV, if_neg (by have := keys_len hke; omega)] at hok
         exact ⟨_, rfl, by rw [← zB6 ad]; exact ApR.bare (Mem.closeV hok h2)⟩
  | some i =>
    obtain ⟨ei, oi, hes, hmi⟩ := hs.itmAt 2 rfl hV; have hit := ho.item hV
    have hst : V.state x.id = i.st := by simp [Vw.state, hV]
    refine zAo Tryz.func14 rfl rfl ?_
    skip
    refine zA6 (zA1 ?_); refine zCj (v := .agg _) hs rfl rfl ?_; clear hs; intro b3 w hs
    try simp only [List.set_cons_succ, List.set_cons_zero] at hs
    refine zA rfl (zA2 (v := .nilIface) rfl) ?_; refine zA4 ?_; refine zA6 ?_; refine zA6 (zA1 ?_); refine zA rfl (zA3 (o' := 1) zEa rfl zDf rfl rfl rfl) ?_; refine zA rfl (zCw hs 0 (mfL x e o) rfl zBx zDf rfl rfl) ?_; refine zAb rfl en40 (validM_sl hE hs hm.cons.cons.cons.cons hob) ?_; clear hs; rintro _ w ⟨eb, rfl, hs⟩; refine zA rfl (zA2 (v := flV ad _ _) rfl) ?_; refine zA4 (zA6 (zA1 ?_)); refine zA rfl (zA0 (v := flV ad _ _) rfl) ?_; refine zA rfl (zF7 (mfF_ok x).place rfl) ?_; refine zA4 ?_; refine zB8 rfl ?_ ?_
    ·
     intro h12; have g12 := ne_t h12; refine zA6 (zA1 ?_); refine zA rfl (zA0 (v := flV ad _ _) rfl) ?_; refine zA rfl (zA2 (v := flV ad _ _) rfl) ?_; refine zA4 ?_; refine zAg ?_; refine zBl (v := flV ad _ _) rfl rfl ?_
     have h0 : (mfF x).1 ≠ 0 := by simpa using h12
     rw [Vw.apply_bad h0]; exact ⟨_, rfl, eb, rfl, Mem.closeV1 ho (hs.arr [0, 2, 3, 4] 5 (by decide))⟩
    ·
     intro h12; have g12 := ne_f h12
     have h0 : (mfF x).1 = 0 := by simpa using h12
     replace hs := hs.tail; refine zAf ?_; refine zA6 ?_; refine zA6 (zA1 ?_); refine zA rfl (zA3 (o' := 0) zEa rfl sz3 rfl rfl rfl) ?_; refine zA rfl (zA8 uz3 rfl rfl (hs.cellAt 0 rfl rfl)) ?_; refine zA rfl (zB7 rfl rfl) ?_; refine zA rfl (zA0 (v := .bool _) rfl) ?_; refine zBa (t := _) (d := 17) rfl ?_ ?_
     ·
      intro h16; have g16 := of_decide_eq_true h16; refine zAc rfl rfl rfl h16 ?_; refine zAc rfl rfl rfl h16 ?_; refine zAc rfl rfl rfl h16 ?_; refine zA rfl (zAj (v := .bool _) rfl h16 rfl) ?_; refine zA4 ?_; refine zBb rfl rfl ?_; refine zA6 (zA1 ?_); refine zA rfl (zA8 zCq rfl rfl (hE.cellW hs 112 (by decide) rfl)) ?_; refine zA rfl (zA2 (v := zAq ad _) rfl) ?_; refine zA4 ?_; refine zAg ?_; refine zBl (v := zAq ad _) rfl rfl ?_; rw [Vw.apply_kind h0 (by omega)]; exact ⟨_, rfl, ApR.bare (Mem.closeV ho hs.tail)⟩
     ·
      intro h16; have g16 := of_decide_eq_false h16; refine zAi rfl rfl h16 ?_; refine zA rfl (zA3 (o' := 0) zEa rfl sz3 rfl rfl rfl) ?_; refine zAi rfl rfl h16 ?_; refine zA rfl (zA8 uz3 rfl rfl (hs.cellAt 0 rfl rfl)) ?_; refine zAi rfl rfl h16 ?_; refine zA rfl (zBi rfl rfl) ?_; refine zA rfl (zAk (v := .bool _) rfl h16 rfl) ?_; refine zA4 ?_; refine zB8 rfl ?_ ?_
      ·
       intro h20; have g20 := of_decide_eq_true h20; refine zA6 (zA1 ?_); refine zA rfl (zA8 zCq rfl rfl (hE.cellW hs 112 (by decide) rfl)) ?_; refine zA rfl (zA2 (v := zAq ad _) rfl) ?_; refine zA4 ?_; refine zAg ?_; refine zBl (v := zAq ad _) rfl rfl ?_; rw [Vw.apply_kind h0 (by omega)]; exact ⟨_, rfl, ApR.bare (Mem.closeV ho hs.tail)⟩
      ·
       intro h20; have g20 := of_decide_eq_false h20; refine zAf ?_; refine zA6 ?_; refine zAy zBv hs ?_; intro w tr hK; replace hs := tr _ hs; clear tr; refine zA5 0 rfl rfl (fun w hs => zA0 (v := .pointer (some _)) rfl) hK ?_; refine zA5 1 rfl rfl (fun w hs => zA7 rfl) hK ?_; refine zA5 2 rfl rfl (fun w hs => zA3 (o' := 0) uz79 rfl sz77 rfl rfl rfl) hK ?_; refine zA5 3 rfl rfl (fun w hs => zA8 uz77 rfl rfl (hs.cellAt 1 rfl rfl)) hK ?_; refine zA5 4 rfl rfl (fun w hs => zA3 (o' := 1) zEa rfl zDf rfl rfl rfl) hK ?_; refine zA5 5 rfl rfl (fun w hs => zA3 zBx rfl sz3 rfl rfl rfl) hK ?_; refine zA5 6 rfl rfl (fun w hs => zA8 uz3 rfl rfl (hs.cellAt 0 rfl rfl)) hK ?_
       refine zA5 7 rfl rfl (fun w hs => zFl (hs.mapAt 2 rfl) zF8 uz77 uz3 ze85 rfl rfl (o := some (itmV i ei oi)) hes) hK ?_; refine zA5 8 rfl rfl (fun w hs => zA0 (v := .tuple _) rfl) hK ?_; refine zA5 9 rfl rfl (fun w hs => zAa (v := .agg _) rfl rfl) hK ?_; refine zA5 10 rfl rfl (fun w hs => zAa (v := .bool _) rfl rfl) hK ?_; refine zA9 [11] ?_; refine ⟨⟨_, rfl, ?_⟩, trivial⟩; refine zBd hs rfl ze85 ?_; clear hs; intro b6 w hs
       try simp only [List.set_cons_succ, List.set_cons_zero] at hs
       clear hK; have hK := hs.tail; refine zA4 ⟨hK, ?_⟩; refine zA9 [12] ?_; refine ⟨⟨_, rfl, ?_⟩, trivial⟩; refine zAn hs 0 rfl rfl rfl sz85 rfl rfl ?_; clear hs; intro w hs
       try simp only [List.set_cons_succ, List.set_cons_zero] at hs
       clear hK; have hK := hs.tail; refine zA4 ⟨hK, ?_⟩; refine zA5 13 rfl rfl (fun w hs => zA2 (v := .bool _) rfl) hK ?_; refine zAp (by kernel_rfl) ?_; clear hK; refine zA6 ?_; refine zAw ?_; refine zA6 (zA1 ?_); refine zA rfl (zA3 (o' := 0) uz85 rfl sz3 rfl rfl rfl) ?_; refine zA rfl (zA8 uz3 rfl rfl (hs.cellAt 0 rfl rfl)) ?_; refine zA rfl (zA3 (o' := 0) zEa rfl sz3 rfl rfl rfl) ?_; refine zA rfl (zA8 uz3 rfl rfl (hs.cellAt 1 rfl rfl)) ?_; refine zAb rfl en41 (nextE_sl hs i.st k) ?_; clear hs; rintro _ w ⟨rfl, hs⟩; refine zA rfl (zC4 rfl) ?_; refine zA rfl (zA2 (v := .bool _) rfl) ?_; refine zA4 ?_; refine zB8 rfl ?_ ?_
       ·
        intro h39; replace h39 := zFu h39; refine zA6 (zA1 ?_); refine zA rfl (zA8 zCq rfl rfl (hE.cellW hs 113 (by decide) rfl)) ?_; refine zA rfl (zA2 (v := zAq ad _) rfl) ?_; refine zA4 ?_; refine zAg ?_; refine zBl (v := zAq ad _) rfl rfl ?_; rw [Vw.apply_state h0 (by omega) (by rw [hst]; exact h39)]; exact ⟨_, rfl, ApR.bare (Mem.closeV ho hs.tail.tail)⟩
       ·
        intro h39; replace h39 := zEs h39; refine zA6 (zA1 ?_); refine zA rfl (zA0 (v := .bool _) rfl) ?_; refine zA rfl (zC4 rfl) ?_; refine zA rfl (zA0 (v := .bool _) rfl) ?_; refine zAc rfl rfl rfl (zC8 (rfl)) ?_; refine zAc rfl rfl rfl (zC8 (rfl)) ?_; refine zAc rfl rfl rfl (zC8 (rfl)) ?_; refine zAc rfl rfl rfl (zC8 (rfl)) ?_; refine zAc rfl rfl rfl (zC8 (rfl)) ?_; refine zAc rfl rfl rfl (zC8 (rfl)) ?_; refine zA rfl (zAk (v := .bool _) rfl (zC8 (rfl)) rfl) ?_; refine zA rfl (zA2 (v := .bool _) rfl) ?_; refine zA4 ?_; refine zAx rfl rfl ?_; refine zA6 (zA1 ?_); refine zA rfl (zA0 (v := .bool _) rfl) ?_; refine zA rfl (zA0 (v := .bool _) rfl) ?_; refine zAi rfl rfl (rfl) ?_
        refine zA rfl (zA3 (o' := 1) uz85 rfl zDf rfl rfl rfl) ?_; refine zAi rfl rfl (rfl) ?_; refine zA rfl (zCw hs 0 (mfL i.m ei oi) rfl zBx zDf rfl rfl) ?_; refine zAi rfl rfl (rfl) ?_; refine zA rfl (zA3 (o' := 1) zEa rfl zDf rfl rfl rfl) ?_; refine zAi rfl rfl (rfl) ?_; refine zA rfl (zCw hs 1 (mfL x e o) rfl zBx zDf rfl rfl) ?_; refine zAi rfl rfl (rfl) ?_; refine zAb rfl en42 (sameM_sl hs hmi.cons.cons hm.cons.cons.cons.cons.cons (by omega) (by omega)) ?_; clear hs; rintro _ w ⟨rfl, hs⟩; refine zAi rfl rfl (rfl) ?_; refine zA rfl (zC4 rfl) ?_; refine zA rfl (zAj (v := .bool _) rfl (rfl) rfl) ?_; refine zA rfl (zA2 (v := .bool _) rfl) ?_; refine zA4 ?_; refine zB8 rfl ?_ ?_
        ·
         intro h61; replace h61 := zFu h61; refine zA6 (zA1 ?_); refine zA rfl (zA8 zCq rfl rfl (hE.cellW hs 103 (by decide) rfl)) ?_; refine zA rfl (zA2 (v := zAq ad _) rfl) ?_; refine zA4 ?_; refine zAg ?_; refine zBl (v := zAq ad _) rfl rfl ?_; rw [Vw.apply_old h0 (by omega) (by rw [hst]; exact h39) hV, if_neg (of_decide_eq_false h61)]; exact ⟨_, rfl, ApR.bare (Mem.closeV ho hs.tail.tail)⟩
        ·
         intro h61; replace h61 := zEs h61; refine zAf ?_; refine zA6 ?_; refine zAy zBv (hs.drop 3) ?_; intro w tr hK; replace hs := tr _ hs; clear tr; refine zA5 0 rfl rfl (fun w hs => zA0 (v := .pointer (some _)) rfl) hK ?_; refine zA5 1 rfl rfl (fun w hs => zA7 rfl) hK ?_; refine zA5 2 rfl rfl (fun w hs => zA3 (o' := 0) uz79 rfl sz77 rfl rfl rfl) hK ?_; refine zA5 3 rfl rfl (fun w hs => zA8 uz77 rfl rfl (hs.cellAt 2 rfl rfl)) hK ?_; refine zA5 4 rfl rfl (fun w hs => zA3 (o' := 1) zEa rfl zDf rfl rfl rfl) hK ?_; refine zA5 5 rfl rfl (fun w hs => zA3 zBx rfl sz3 rfl rfl rfl) hK ?_; refine zA5 6 rfl rfl (fun w hs => zA8 uz3 rfl rfl (hs.cellAt 1 rfl rfl)) hK ?_
         refine zA5 7 rfl rfl (fun w hs => zA3 (o' := 0) zEa rfl sz3 rfl rfl rfl) hK ?_; refine zA5 8 rfl rfl (fun w hs => zA8 uz3 rfl rfl (hs.cellAt 1 rfl rfl)) hK ?_; refine zA5 9 rfl rfl (fun w hs => zA3 (o' := 1) zEa rfl zDf rfl rfl rfl) hK ?_; refine zA5 10 rfl rfl (fun w hs => zCw hs 1 (mfL x e o) rfl zBx zDf rfl rfl) hK ?_; refine zA9 [11] ?_; refine ⟨⟨_, rfl, ?_⟩, trivial⟩; refine zAb rfl en43 (cloneM_sl hs hm.cons.cons.cons.cons.cons (by have := mf_len h0; omega) (by have := mf_len h0; omega)) ?_; clear hs; rintro _ w ⟨s1, s2, rfl, hs⟩; clear hK; have hK := hs.tail.tail.drop 3; refine zA4 ⟨hK, ?_⟩
         refine @aw_take _ _ _ _ _ _ _ _ _ _ _ _ _ _ 12 _ rfl (by kernel_rfl) (by kernel_rfl) (by kernel_rfl) rfl (fun w hs => zG9 (k := k) (m := x) (e := s1) (o := s2) uz85 ze85 pl85 rfl rfl) hK ?_; refine zA9 [13] ?_; refine ⟨⟨_, rfl, ?_⟩, trivial⟩; refine zE0 (v := .agg _) hs 5 rfl zF8 uz77 uz3 rfl rfl rfl ?_; clear hs; intro w hs
         try simp only [List.set_cons_succ, List.set_cons_zero] at hs
         clear hK; have hK := hs.tail.tail.drop 3; refine zA4 ⟨hK, ?_⟩; refine zAp (by kernel_rfl) ?_; clear hK; refine zA6 (zA1 ?_); refine zA rfl (zA2 (v := .nilIface) rfl) ?_; refine zA4 ?_; refine zAg ?_; refine zBl (v := .nilIface) rfl rfl ?_; rw [Vw.apply_old h0 (by omega) (by rw [hst]; exact h39) hV, if_pos (of_decide_eq_true h61)]; have h1 := Mem.closeItm (i := ⟨k, x⟩) (hs.arr [0, 1, 4, 5, 6] 7 (by decide)); have h2 := Mem.famPut (R := itmC) (k := x.id) h1 2 rfl (fun _ h => False.elim h); have hok := Vw.apply_ok ho k x; rw [Vw.apply_old h0 (by omega) (by rw [hst]; exact h39) hV, if_pos (of_decide_eq_true h61)] at hok
         exact ⟨_, rfl, by rw [← zB6 ad]; exact ApR.bare (Mem.closeV hok h2)⟩
end Go.Proofs.YtdkgdjnbpjjfmaaGreatDoor
namespace Go.Proofs.YtdkgdjnbpjjfmaaGreatDoor
set_option linter.all false
open Go.RowKit
attribute [local irreducible] zAq
variable {g w : World} {L M : List HP} {ad : Nat → Addr} {p : Nat} {V : Vw}

/-- One above all IDs. -/
def Vw.top : Vw → Int
  | [] => 0
  | x :: V => max (x.1 + 1) (Vw.top V)
theorem Vw.top_ge : ∀ {V : Vw} {k : Int}, k ∈ zAl V → k + 1 ≤ V.top
  | x :: V, k, h => by
    simp only [zAl, List.map_cons, List.mem_cons] at h; simp only [Vw.top]
    rcases h with rfl | h
    · omega
    · have := Vw.top_ge (V := V) h
      omega
theorem Vw.top_in : ∀ (V : Vw), (∀ k ∈ zAl V, 0 ≤ k) → V.top = 0 ∧ V = [] ∨ ∃ k ∈ zAl V, V.top = k + 1
  | [], _ => .inl ⟨rfl, rfl⟩
  | x :: V, h => by
    have hx := h x.1 (List.mem_cons_self ..)
    rcases Vw.top_in V (fun k hk => h k (List.mem_cons_of_mem _ hk)) with ⟨h1, _⟩ | ⟨k, hk, h1⟩
    · refine .inr ⟨x.1, List.mem_cons_self .., ?_⟩
      simp only [Vw.top]; omega
    · rcases Int.le_total (x.1 + 1) (k + 1) with h2 | h2
      · exact .inr ⟨k, List.mem_cons_of_mem _ hk, by simp only [Vw.top]; omega⟩
      · exact .inr ⟨x.1, List.mem_cons_self .., by simp only [Vw.top]; omega⟩
theorem mf_id {x : Mf} (h : (mfF x).1 = 0) : 0 ≤ x.id ∧ x.id ≤ 2147483647 := by
  unfold mfF at h
  split at h
  · cases h
  · rename_i h1
    simp only [zBh, Bool.or_eq_true, decide_eq_true_eq, not_or] at h1
    omega
theorem Vw.ok.ids (h : V.ok) {k : Int} (hk : k ∈ zAl V) : 0 ≤ k ∧ k ≤ 2147483647 := by
  obtain ⟨x, hx, rfl⟩ := List.mem_map.1 hk; have h1 := h.fine x hx; have := mf_id h1.1; rw [h1.2.1] at this; exact this
structure NxI (V : Vw) (es left : List (Int × Value)) (m : Int) : Prop where
  nd : (zAl left).Nodup
  sub : ∀ k v, zB5 left k = some v → zB5 es k = some v
  ge : ∀ k ∈ zAl V, zB5 left k = none → k + 1 ≤ m
  has : m = 0 ∨ ∃ k ∈ zAl V, m = k + 1
theorem NxI.step {es left : List (Int × Value)} {m : Int} (h : NxI V es left m) {k : Int} (hk : k ∈ zAl V) : NxI V es (zE8 left k) (max m (k + 1)) := by
  refine ⟨nodup_del h.nd k, fun j v hj => ?_, fun j hj hn => ?_, ?_⟩
  · by_cases e : j = k
    · subst e; rw [zEv h.nd] at hj; cases hj
    · rw [zCk _ e] at hj; exact h.sub j v hj
  · by_cases e : j = k
    · subst e; omega
    · rw [zCk _ e] at hn; have := h.ge j hj hn; omega
  · rcases Int.le_total m (k + 1) with h2 | h2
    · exact .inr ⟨k, hk, by omega⟩
    · rw [Int.max_eq_left h2]; exact h.has
theorem NxI.over {es : List (Int × Value)} {m : Int} (h : NxI V es [] m) (h0 : ∀ k ∈ zAl V, 0 ≤ k) : m = V.top := by
  have h1 : ∀ k ∈ zAl V, k + 1 ≤ m := fun k hk => h.ge k hk rfl
  rcases Vw.top_in V h0 with ⟨h2, h3⟩ | ⟨k, hk, h2⟩
  · rcases h.has with h4 | ⟨k, hk, _⟩
    · omega
    · subst h3; simp [zAl] at hk
  · have := h1 k hk
    rcases h.has with h4 | ⟨j, hj, h4⟩
    · have := h0 k hk; omega
    · have := Vw.top_ge hj; omega
end Go.Proofs.YtdkgdjnbpjjfmaaGreatDoor
namespace Go.Proofs.YtdkgdjnbpjjfmaaGreatDoor
set_option linter.all false
open Go.RowKit
attribute [local irreducible] zAq
variable {g w : World} {L M : List HP} {ad : Nat → Addr}

theorem Came.cap {a : Option Addr} {n c : Nat} {l : List Value} (h : Came g (.slice a n c) l) : n ≤ c := by
  obtain ⟨⟨a', n', c', hv, hn, hc, _⟩, _⟩ := h; simp only [Value.slice.injEq] at hv; obtain ⟨_, rfl, rfl⟩ := hv; exact hc
/-- Bytes as a text. -/
theorem zCe {P : Program} {ρ : Env} {dst : Option Tmp} {ty : TypeId} {pos : String} {aft : Array Edge} {x : Operand} {ts e td : TypeId} {b off n c : Nat} {l : List UInt8} (hs : P.underlying ts = some (.slice e)) (he : P.underlying e = some (.int .u8)) (hd : P.underlying td = some .string) (hx : ev ρ x = .slice (some ⟨b, off, none⟩) n c) (hn : n = l.length) (hc : ∀ (j : Nat) (v : Value), (zAm l)[j]? = some v → w.cell? ⟨b, off + j, none⟩ = some v) :
    (execOp (ev ρ) ⟨dst, .convert ts td x, ty, pos, aft, none⟩).run P w = .ok (.value (.string ⟨l.toArray⟩)) w := by
  subst hn; have h := run_convert_bytes_back (P := P) w ts td e ⟨b, off, none⟩ c l hs he hd (fun j hj => by rw [Addr.add_lit]; exact hc j _ (zE2 (List.getElem?_eq_getElem hj))); simp only [execOp, hx, Sem.run_bind, h, Result.andThen_ok, Sem.run_pure]
end Go.Proofs.YtdkgdjnbpjjfmaaGreatDoor
namespace Go.Proofs.YtdkgdjnbpjjfmaaGreatDoor
set_option linter.all false

/-- A bit. -/
def zCz (x : Nat) : Nat := (x / 2) ^^^ (if x % 2 = 1 then 2197175160 else 0)
def crc4 (x : Nat) : Nat := zCz (zCz (zCz (zCz x)))
theorem xor_swap (x y p : Nat) : x ^^^ (y ^^^ p) = y ^^^ (x ^^^ p) := by rw [← Nat.xor_assoc, Nat.xor_comm x y, Nat.xor_assoc]
theorem crcStep_xor (a b : Nat) : zCz (a ^^^ b) = zCz a ^^^ zCz b := by
  have hm : (a ^^^ b) % 2 = (a % 2) ^^^ (b % 2) := by simpa using Nat.xor_mod_two_pow (a := a) (b := b) (n := 1)
  unfold zCz
  rw [Nat.xor_div_two, hm]
  rcases Nat.mod_two_eq_zero_or_one a with ha | ha <;> rcases Nat.mod_two_eq_zero_or_one b with hb | hb <;> simp only [ha, hb]
  · simp
  · simp [Nat.xor_assoc]
  · simp only [Nat.reduceEqDiff, Nat.xor_zero, if_true, if_false, Nat.reduceXor, Nat.zero_ne_one]
    rw [Nat.xor_assoc, Nat.xor_assoc, Nat.xor_comm (b / 2)]
  · simp only [Nat.xor_self, Nat.reduceEqDiff, if_true]
    have : ∀ x y p : Nat, x ^^^ p ^^^ (y ^^^ p) = x ^^^ y := fun x y p => by
      rw [Nat.xor_assoc, xor_swap p y p, Nat.xor_self, Nat.xor_zero]
    rw [this]; simp
theorem zFi (q : Nat) : zCz (2 * q) = q := by simp [zCz]
theorem crc4_xor (a b : Nat) : crc4 (a ^^^ b) = crc4 a ^^^ crc4 b := by simp only [crc4, crcStep_xor]
theorem crc4_sixteen (q : Nat) : crc4 (16 * q) = q := by
  unfold crc4
  rw [show 16 * q = 2 * (2 * (2 * (2 * q))) by omega, zFi, zFi, zFi, zFi]
theorem split16 (x : Nat) : 16 * (x / 16) ^^^ x % 16 = x := by
  have h1 : (16 * (x / 16) ^^^ x % 16) / 2 ^ 4 = x / 16 := by
    rw [Nat.xor_div_two_pow]
    have a : 16 * (x / 16) / 2 ^ 4 = x / 16 := by omega
    have b : x % 16 / 2 ^ 4 = 0 := by omega
    rw [a, b, Nat.xor_zero]
  have h2 : (16 * (x / 16) ^^^ x % 16) % 2 ^ 4 = x % 16 := by
    rw [Nat.xor_mod_two_pow]
    have a : 16 * (x / 16) % 2 ^ 4 = 0 := by omega
    have b : x % 16 % 2 ^ 4 = x % 16 := by omega
    rw [a, b, Nat.zero_xor]
  have h3 := Nat.div_add_mod (16 * (x / 16) ^^^ x % 16) (2 ^ 4); rw [h1, h2] at h3
  omega
theorem crc4_split (x : Nat) : crc4 x = (x / 16) ^^^ crc4 (x % 16) := by
  conv => lhs; rw [← split16 x]
  rw [crc4_xor, crc4_sixteen]
theorem zFz {x : Nat} (h : x < 4294967296) : zCz x < 4294967296 := by
  unfold zCz
  refine Nat.xor_lt_two_pow (n := 32) (by omega) ?_
  split <;> decide
theorem crc4_lt {x : Nat} (h : x < 4294967296) : crc4 x < 4294967296 := zFz (zFz (zFz (zFz h)))

/-- A byte. -/
def crcByte (s : Nat) (c : UInt8) : Nat := crc4 (crc4 (s ^^^ c.toNat))
theorem crcByte_lt {s : Nat} (h : s < 4294967296) (c : UInt8) : crcByte s c < 4294967296 :=
  crc4_lt (crc4_lt (Nat.xor_lt_two_pow (n := 32) (by omega) (Nat.lt_trans c.toNat_lt (by decide))))
def zEt (s : Nat) (l : List UInt8) : Nat := l.foldl crcByte s
theorem zG5 : ∀ (l : List UInt8) {s : Nat}, s < 4294967296 → zEt s l < 4294967296
  | [], _, h => h
  | c :: l, _, h => zG5 l (crcByte_lt h c)
/-- The sum of bytes with more behind. -/
def zFo (s : Nat) (l : List UInt8) : Nat := 4294967295 ^^^ zEt (4294967295 ^^^ s) l
theorem not_lt {s : Nat} (h : s < 4294967296) : 4294967295 ^^^ s < 4294967296 := Nat.xor_lt_two_pow (n := 32) (by omega) (by omega)
theorem crcMore_lt {s : Nat} (h : s < 4294967296) (l : List UInt8) : zFo s l < 4294967296 := not_lt (zG5 l (not_lt h))

theorem zD (a b : Nat) (ha : a < 4294967296) (hb : b < 4294967296) : bits .xor .u32 (a : Int) (b : Int) = ((a ^^^ b : Nat) : Int) := by
  have hx : a ^^^ b < 2 ^ 32 := Nat.xor_lt_two_pow (by omega) (by omega)
  have h1 : (BitVec.ofInt 32 (a : Int)).toNat = a := by
    rw [BitVec.ofInt_natCast, BitVec.toNat_ofNat]; exact Nat.mod_eq_of_lt (by omega)
  have h2 : (BitVec.ofInt 32 (b : Int)).toNat = b := by
    rw [BitVec.ofInt_natCast, BitVec.toNat_ofNat]; exact Nat.mod_eq_of_lt (by omega)
  have hw : ∀ n : Int, IntKind.u32.wrap n = n % 4294967296 := fun n => by simp [IntKind.wrap, IntKind.bits, IntKind.signed]
  show IntKind.u32.wrap ((BitVec.ofInt 32 (a : Int) ^^^ BitVec.ofInt 32 (b : Int)).toNat : Int) = _
  rw [BitVec.toNat_xor, h1, h2, hw]
  omega
theorem not_u32 (s : Nat) (h : s < 4294967296) : bits .xor .u32 IntKind.u32.max (s : Int) = ((4294967295 ^^^ s : Nat) : Int) := by
  have : IntKind.u32.max = ((4294967295 : Nat) : Int) := by decide
  rw [this, zD _ _ (by decide) h]
theorem half_step (y : Nat) (hy : y < 4294967296) : bits .xor .u32 ((y : Int) / 2) (bits .and .u32 (-bits .and .u32 (y : Int) 1 % 4294967296) 2197175160) = ((zCz y : Nat) : Int) := by
  have e1 : bits .and .u32 (y : Int) 1 = ((y % 2 : Nat) : Int) := by
    have := bits_and_u32_nat y 1 hy (by decide); rw [show ((1 : Nat) : Int) = 1 from rfl] at this; rw [this, show y &&& 1 = y % 2 from Nat.and_two_pow_sub_one_eq_mod y 1]
  rw [e1]
  have hd : ((y : Int) / 2) = ((y / 2 : Nat) : Int) := by omega
  rw [hd]
  unfold zCz
  rcases Nat.mod_two_eq_zero_or_one y with h | h
  · rw [h]
    have e2 : bits .and .u32 (-((0 : Nat) : Int) % 4294967296) 2197175160 = ((0 : Nat) : Int) := by decide
    rw [e2, zD _ _ (by omega) (by decide)]
    simp
  · rw [h]
    have e2 : bits .and .u32 (-((1 : Nat) : Int) % 4294967296) 2197175160 = ((2197175160 : Nat) : Int) := by decide
    rw [e2, zD _ _ (by omega) (by decide)]
    simp
theorem low_four (y : Nat) (hy : y < 4294967296) : bits .and .u32 (y : Int) 15 = ((y % 16 : Nat) : Int) := by
  have := bits_and_u32_nat y 15 hy (by decide); rw [show ((15 : Nat) : Int) = 15 from rfl] at this; rw [this, show y &&& 15 = y % 16 from Nat.and_two_pow_sub_one_eq_mod y 4]
theorem half_byte (y : Nat) (hy : y < 4294967296) : bits .xor .u32 ((y : Int) / 16) ((crc4 (y % 16) : Nat) : Int) = ((crc4 y : Nat) : Int) := by
  rw [show ((y : Int) / 16) = ((y / 16 : Nat) : Int) by omega, zD _ _ (by omega) (crc4_lt (by omega)), ← crc4_split]
end Go.Proofs.YtdkgdjnbpjjfmaaGreatDoor
namespace Go.Proofs.YtdkgdjnbpjjfmaaGreatDoor
set_option linter.all false
open Go.RowKit

theorem oneU8c (l : List UInt8) {i : Nat} {v : Value} (h : (zAm l)[i]? = some v) : ∃ x, l[i]? = some x ∧ v = .int .u8 x.toNat := by
  simp only [zAm, List.getElem?_map, Option.map_eq_some_iff] at h; obtain ⟨x, hx, rfl⟩ := h; exact ⟨x, hx, rfl⟩

set_option maxRecDepth 100000 in
/-- So many bits of a number. -/
def crcN : Nat → Nat → Nat
  | 0, x => x
  | m + 1, x => zCz (crcN m x)
theorem crcN_lt {x : Nat} (h : x < 4294967296) : ∀ m, crcN m x < 4294967296
  | 0 => h
  | m + 1 => zFz (crcN_lt h m)
/-- The table as far as k. -/
def zCb (k : Nat) : Array Value := ((List.range 16).map fun i => .int .u32 ((if i < k then crc4 i else 0 : Nat) : Int)).toArray

theorem half_set : ∀ k, k < 16 → (zCb k).setIfInBounds k (.int .u32 ((crcN 4 k : Nat) : Int)) = zCb (k + 1)
  | 0, _ => rfl
  | 1, _ => rfl
  | 2, _ => rfl
  | 3, _ => rfl
  | 4, _ => rfl
  | 5, _ => rfl
  | 6, _ => rfl
  | 7, _ => rfl
  | 8, _ => rfl
  | 9, _ => rfl
  | 10, _ => rfl
  | 11, _ => rfl
  | 12, _ => rfl
  | 13, _ => rfl
  | 14, _ => rfl
  | 15, _ => rfl
  | n + 16, h => absurd h (by omega)
theorem half_at {k : Nat} (h : k < 16) : (zCb 16)[k]? = some (.int .u32 ((crc4 k : Nat) : Int)) := by
  simp [zCb, h]
theorem half_one : (zCb 16).all (·.oneCell') = true := by simp [zCb, Value.oneCell']
theorem size_u32 : (Tryz.prog.info? 111).map (·.size) = some 1 := by kernel_rfl
theorem size_tab (vs : Array Value) (h : vs.size = 16) : (Tryz.prog.info? 230).map (·.size) = some vs.size := by rw [h]; kernel_rfl
theorem agg_tab (w : World) : (isAgg 230).run Tryz.prog w = .ok true w := by simp [isAgg, run_underlying uz230]

def HalfPost (w : World) (e : Ending) (w' : World) : Prop := e = .returned (.agg (zCb 16)) ∧ Below w.heap.size w w'
set_option maxRecDepth 100000 in
theorem halves_any {w : World} : Calls Tryz.prog 173 #[] w (HalfPost w) := by
  go_enter Tryz.func173, Tryz.ntmps173
  go_wp2
  go_loopg [4] 16 (fun g i wr => ∃ k : Nat, g = 16 - k ∧ k ≤ 16 ∧ i = .int .i64 k ∧ Below w.heap.size w wr ∧ wr.heap[w.heap.size + 1]? = some (.cells (zCb k) 230 (0, 0)) ∧ ∃ z : Array Value, z.size = 16 ∧ wr.heap[w.heap.size]? = some (.cells z 230 (0, 0)))
  case atStart =>
    refine ⟨0, rfl, by omega, rfl, (((Keeps.refl (fun _ => False) w).alloc _).alloc _).below (Nat.le_refl _) fun _ _ => id, ?_, _, ?_, heap_alloc_old (World.alloc_heap_new w _)⟩
    · have := World.alloc_heap_new (w.alloc (.cells (zCb 0) 230)) (.cells (zCb 0) 230)
      show ((w.alloc (.cells (zCb 0) 230)).alloc (.cells (zCb 0) 230)).heap[w.heap.size + 1]? = some (.cells (zCb 0) 230 (0, 0))
      simpa using this
    · rfl
  case round =>
    obtain ⟨k, hg, hk, rfl, hbel, hT, z, hz, hZ⟩ := hrel; subst hg; have HB := Lib.hid hbel; have HT := Lib.hid hT; have HZ := Lib.hid hZ; have Hz := Lib.hid hz; clear hbel hT hZ hz
    by_cases hk16 : k < 16
    · go_wp2
      rw [show decide ((k : Int) < 16) = true from by simp; omega]
      go_loopg [3, 9] 4 (fun g x i wi => wi = wr ∧ ∃ m : Nat, g = 4 - m ∧ m ≤ 4 ∧ i = .int .i64 m ∧ x = .int .u32 (crcN m k : Nat))
      case atStart => exact ⟨rfl, 0, rfl, by omega, rfl, rfl⟩
      case round =>
        obtain ⟨rfl, m, hg, hm, rfl, rfl⟩ := hrel; subst hg; have hlt := crcN_lt (show k < 4294967296 by omega) m
        by_cases hm4 : m < 4
        · go_wp2
          go_roundg (4 - (m + 1))
          case measure => omega
          case rel => exact ⟨rfl, m + 1, rfl, by omega, by go_num, by rw [half_step _ hlt]; rfl⟩
        · have hm4' : m = 4 := by omega
          subst hm4'
          go_wp2_with (refine wpList_storeCell rfl _ _ _ rfl (w.heap.size + 1) k (.int .u32 ((crcN 4 k : Nat) : Int)) rfl rfl HT.out size_u32 (by simp [zCb]; omega) rfl ?_; intro w1 h1 k1 _; have H1 := Lib.hid h1; have K1 := Lib.hid k1; clear h1 k1)
          go_roundg (16 - (k + 1))
          case measure => omega
          case rel => exact ⟨k + 1, rfl, by omega, by go_num, HB.out.trans (K1.out.below HB.out.size fun i hi e => by omega), by rw [H1.out, half_set k hk16], z, Hz.out, K1.out.get HZ.out (by omega)⟩
    · have hk' : k = 16 := by omega
      subst hk'
      go_wp2_with (first
        | (refine wpList_load_row rfl _ _ rfl (w.heap.size + 1) rfl _ (zCb 16) (0, 0) _ HT.out uz230 rfl (size_tab (zCb 16) rfl) ?_)
        | (refine zFb rfl _ _ _ rfl w.heap.size _ rfl rfl HZ.out (size_tab (zCb 16) rfl) Hz.out half_one ?_; intro w2 h2 k2 _; have H2 := Lib.hid h2; have K2 := Lib.hid k2; clear h2 k2))
      refine bodyPost_ret (results_row rfl rfl (agg_tab _) (size_tab (zCb 16) rfl) H2.out) rfl ⟨rfl, ?_⟩; exact HB.out.trans (K2.out.below HB.out.size fun i hi e => by omega)

/-- What a byte's round needs of the arithmetic, its numbers as names. -/
structure Round (s : Nat) (x : UInt8) (y1 i1 t1 y2 i2 t2 y3 : Nat) : Prop where
  e1 : bits .xor .u32 (s : Int) ((x.toNat : Int) % 4294967296) = (y1 : Int)
  e2 : bits .and .u32 (y1 : Int) 15 = (i1 : Int)
  e3 : bits .xor .u32 ((y1 : Int) / 16) (t1 : Int) = (y2 : Int)
  e4 : bits .and .u32 (y2 : Int) 15 = (i2 : Int)
  e5 : bits .xor .u32 ((y2 : Int) / 16) (t2 : Int) = (y3 : Int)
  l1 : i1 < 16
  l2 : i2 < 16
  h0 : crc4 (crc4 y1) = y3
  h1 : t1 = crc4 i1
  h2 : t2 = crc4 i2
  h3 : y3 = crcByte s x
  b1 : y1 < 4294967296
  b2 : y2 < 4294967296
theorem round_at {s : Nat} (hs : s < 4294967296) (x : UInt8) : ∃ y1 i1 t1 y2 i2 t2 y3, Round s x y1 i1 t1 y2 i2 t2 y3 := by
  have hx : x.toNat < 4294967296 := Nat.lt_trans x.toNat_lt (by decide); have h1 : s ^^^ x.toNat < 4294967296 := Nat.xor_lt_two_pow (n := 32) (by omega) (by omega); have h2 := crc4_lt h1
  exact ⟨s ^^^ x.toNat, (s ^^^ x.toNat) % 16, crc4 ((s ^^^ x.toNat) % 16), crc4 (s ^^^ x.toNat), crc4 (s ^^^ x.toNat) % 16, crc4 (crc4 (s ^^^ x.toNat) % 16), crc4 (crc4 (s ^^^ x.toNat)),
    by rw [show ((x.toNat : Int) % 4294967296) = (x.toNat : Int) by omega]; exact zD _ _ hs hx, low_four _ h1, half_byte _ h1, low_four _ h2, half_byte _ h2, Nat.mod_lt _ (by decide), Nat.mod_lt _ (by decide), rfl, rfl, rfl, rfl, h1, h2⟩

def SumPost (w : World) (n : Nat) (e : Ending) (w' : World) : Prop := e = .returned (.int .u32 (n : Int)) ∧ Below w.heap.size w w'
set_option maxRecDepth 100000 in
theorem more_any {w : World} {b : Value} {l : List UInt8} {s : Nat} (hs : s < 4294967296) (hb : seqV w b (zAm l)) (hlen : l.length ≤ 1073741824) :
    Calls Tryz.prog 152 #[.int .u32 (s : Int), b] w (SumPost w (zFo s l)) := by
  have HB := Lib.hid hb; obtain ⟨a, n, c, rfl, hal, ha2⟩ := id hb
  have hal' : n = l.length := by simpa [zAm] using hal
  clear hal; subst hal'; clear hb ha2
  go_enter Tryz.func152, Tryz.ntmps152
  go_wp2_with (first
    | (go_at_call 173; refine halves_any.mono ?_; rintro e w1 ⟨rfl, hb1⟩; have Hb1 := Lib.hid hb1; clear hb1)
    | (refine zFb rfl _ _ _ rfl w1.heap.size _ rfl rfl (World.alloc_heap_new w1 _) (size_tab (zCb 16) rfl) rfl half_one ?_; intro w2 h2 k2 _; have H2 := Lib.hid h2; have Hb2 := Lib.hid (Hb1.out.trans ((((Keeps.refl (fun i => i = w1.heap.size) w1).alloc _).trans k2).below Hb1.out.size fun i hi e => by have := Hb1.out.size; omega)); clear h2 k2))
  go_loopg [0, 13] l.length (fun g x i wr => wr = w2 ∧ ∃ k : Nat, g = l.length - k ∧ k ≤ l.length ∧ i = .int .i64 k ∧ x = .int .u32 ((zEt (4294967295 ^^^ s) (l.take k) : Nat) : Int))
  case atStart => exact ⟨rfl, 0, rfl, Nat.zero_le _, rfl, by rw [not_u32 _ hs]; rfl⟩
  case round =>
    obtain ⟨rfl, k, hg, hk, rfl, rfl⟩ := hrel; subst hg
    by_cases hkl : k < l.length
    · obtain ⟨bb, off, rfl, lt, hc⟩ := HB.out.cell hkl
      have hk' : k < (zAm l).length := by simpa [zAm] using hkl
      have cx := (Hb2.out.cell (p := ⟨bb, off + k, none⟩) lt).trans (hc k hk'); obtain ⟨x, hlx, hx⟩ := oneU8c l (List.getElem?_eq_getElem hk'); rw [hx] at cx; clear hc hx hk'; have hlt : zEt (4294967295 ^^^ s) (l.take k) < 4294967296 := zG5 _ (not_lt hs); obtain ⟨y1, i1, t1, y2, i2, t2, y3, R⟩ := round_at hlt x
      have hnext : zEt (4294967295 ^^^ s) (l.take (k + 1)) = y3 := by
        rw [R.h3, List.take_add_one, hlx, zEt, zEt, List.foldl_append]; rfl
      have Hn := Lib.hid hnext; obtain ⟨e1, e2, e3, e4, e5, l1, l2, h0, h1, h2, h3, b1, b2⟩ := R; have c1 : wr.cell? ⟨w1.heap.size, i1, none⟩ = some (.int .u32 (t1 : Int)) := zDp H2.out (by rw [h1]; exact half_at l1); have c2 : wr.cell? ⟨w1.heap.size, i2, none⟩ = some (.int .u32 (t2 : Int)) := zDp H2.out (by rw [h2]; exact half_at l2); generalize zEt (4294967295 ^^^ s) (l.take k) = z at *; clear h0 h1 h2 h3 hnext hlx
      go_wp2
      go_roundg (l.length - (k + 1))
      case measure => omega
      case rel => exact ⟨rfl, k + 1, rfl, by omega, by go_num, by rw [Hn.out]⟩
    · have hk' : k = l.length := by omega
      subst hk'
      go_wp2
      go_ret
      refine ⟨?_, Hb2.out⟩
      show Ending.returned (.int .u32 (bits .xor .u32 IntKind.u32.max ((zEt (4294967295 ^^^ s) l : Nat) : Int))) = _
      rw [not_u32 _ (zG5 l (not_lt hs))]
      rfl

theorem stayB {w w' : World} {v : Value} {l : List Value} (h : seqV w v l) (k : Below w.heap.size w w') : seqV w' v l := by
  obtain ⟨a, n, c, rfl, hn, hc, ha, h⟩ := h; refine ⟨a, n, c, rfl, hn, hc, ha, ?_⟩
  rcases h with h | ⟨b, off, cs, E, fz, rfl, hb, r⟩
  · exact .inl h
  · exact .inr ⟨b, off, cs, E, fz, rfl, (k.block b (lt_of_block hb)).trans hb, r⟩
set_option maxRecDepth 100000 in
theorem of_any0 {w : World} {pv b : Value} {l : List UInt8} (hp : seqV w pv [b]) (hb : seqV w b (zAm l)) (hlen : l.length ≤ 1073741824) :
    Calls Tryz.prog 122 #[pv] w (SumPost w (zFo 0 l)) := by
  have HP := Lib.hid hp; have HB := Lib.hid hb; obtain ⟨a, n, c, rfl, hal, ha2⟩ := id hp
  have hal' : n = 1 := by simpa using hal
  clear hal; subst hal'; obtain ⟨b1, off, rfl, lt, hc⟩ := HP.out.cell (i := 0) (by omega); have c0 : w.cell? ⟨b1, off, none⟩ = some b := hc 0 (by simp); obtain ⟨ba, bn, bc, rfl, hbl, hb2⟩ := id hb; clear hp hb ha2 hc hbl hb2
  go_enter Tryz.func122, Tryz.ntmps122
  go_wp2
  go_loopg [3, 8] 1 (fun g x i wr => ∃ k : Nat, g = 1 - k ∧ k ≤ 1 ∧ i = .int .i64 k ∧ x = .int .u32 ((if k = 0 then 0 else zFo 0 l : Nat) : Int) ∧ Below w.heap.size w wr)
  case atStart => exact ⟨0, rfl, by omega, rfl, rfl, Below.refl _ _⟩
  case round =>
    obtain ⟨k, hg, hk, rfl, rfl, hbel⟩ := hrel; subst hg; have HE := Lib.hid hbel; clear hbel
    by_cases hk0 : k = 0
    · subst hk0
      have cw : wr.cell? ⟨b1, off, none⟩ = some (.slice ba bn bc) := (HE.out.cell (p := ⟨b1, off, none⟩) lt).trans c0
      go_wp2_with (first
        | (go_at_call 152; refine (more_any (s := 0) (l := l) (by decide) (stayB HB.out HE.out) hlen).mono ?_; rintro e w1 ⟨rfl, hb1⟩; have Hb1 := Lib.hid (HE.out.trans (hb1.mono HE.out.size)); clear hb1))
      go_roundg 0
      case measure => omega
      case rel => exact ⟨1, rfl, by omega, by go_num, rfl, Hb1.out⟩
    · have hk1 : k = 1 := by omega
      subst hk1
      go_wp2
      go_ret
      exact ⟨rfl, HE.out⟩
end Go.Proofs.YtdkgdjnbpjjfmaaGreatDoor
namespace Go.Proofs.YtdkgdjnbpjjfmaaGreatDoor
set_option linter.all false
open Go.RowKit

structure Fl where
  id : Nat
  b : List UInt8
  syn : Nat
structure Chg where
  name : ByteArray
  gone : ByteArray
  f : Option Nat
structure Dk where
  room : Nat
  names : List (ByteArray × Nat)
  kept : List (ByteArray × Nat)
  changes : List Chg
  files : Nat
  armed : Nat
  down : Bool
  calls : Nat
  fs : List (Nat × Fl)
def Dk.empty (room : Nat) : Dk := ⟨room, [], [], [], 0, 0, false, 0, []⟩
/-- Behind the begin of a call that changes. -/
def Dk.begin (d : Dk) : Nat × Dk := if d.down then (110, d) else if d.armed = 0 then (0, d) else if d.armed = 1 then (110, { d with armed := 0, down := true }) else (0, { d with armed := d.armed - 1 })
/-- A file, by its name. -/
def Dk.file (n : ByteArray) (d : Dk) : Nat × Option Nat := if d.down then (110, none) else match zB5 d.names n with
  | some i => (0, some i)
  | none => (107, none)
def Chg.app (c : Chg) (l : List (ByteArray × Nat)) : List (ByteArray × Nat) :=
  let l1 := if c.gone = ByteArray.empty then l else zE8 l c.gone
  match c.f with
  | some i => zCd l1 c.name i
  | none => l1
def Dk.change (c : Chg) (d : Dk) : Dk := { d with names := c.app d.names, changes := d.changes ++ [c], calls := d.calls + 1 }
def Dk.len (d : Dk) (i : Nat) : Nat := ((zB5 d.fs i).map (·.b.length)).getD 0
def Dk.used (d : Dk) : Nat := (d.names.map fun x => d.len x.2).sum
/-- Go on with a file; what it is refused with. -/
def Dk.find (n : ByteArray) (d : Dk) : Nat × Option Nat × Dk := if d.begin.1 = 0 then ((d.begin.2.file n).1, (d.begin.2.file n).2, d.begin.2) else (110, none, d.begin.2)
def Dk.setF (d : Dk) (i : Nat) (f : Fl) : Dk := { d with fs := zCd d.fs i f }
def Dk.fl (d : Dk) (i : Nat) : Fl := (zB5 d.fs i).getD ⟨0, [], 0⟩
def Dk.create (n : ByteArray) (d : Dk) : Nat × Dk :=
  if d.begin.1 ≠ 0 then (110, d.begin.2) else
  let d1 := d.begin.2
  if zCa n.data.toList = false then (106, d1) else if (zB5 d1.names n).isSome then (108, d1) else
  (0, ({ d1 with files := d1.files + 1, fs := d1.fs ++ [(d1.files + 1, ⟨d1.files + 1, [], 0⟩)] } : Dk).change ⟨n, ByteArray.empty, some (d1.files + 1)⟩)
def Dk.append (n : ByteArray) (b : List UInt8) (d : Dk) : Nat × Dk :=
  match d.find n with
  | (_, some i, d1) => if d1.room < d1.used + b.length then (109, d1) else (0, { d1.setF i { d1.fl i with b := (d1.fl i).b ++ b } with calls := d1.calls + 1 })
  | (c, none, d1) => (c, d1)
def Dk.cut (n : ByteArray) (k : Int) (d : Dk) : Nat × Dk :=
  match d.find n with
  | (_, some i, d1) => if k < 0 ∨ ((d1.fl i).b.length : Int) < k then (105, d1) else (0, { d1.setF i { d1.fl i with b := (d1.fl i).b.take k.toNat, syn := k.toNat } with calls := d1.calls + 1 })
  | (c, none, d1) => (c, d1)
def Dk.sync (n : ByteArray) (d : Dk) : Nat × Dk :=
  match d.find n with
  | (_, some i, d1) => (0, { d1.setF i { d1.fl i with syn := (d1.fl i).b.length } with calls := d1.calls + 1 })
  | (c, none, d1) => (c, d1)
def Dk.rename (n m : ByteArray) (d : Dk) : Nat × Dk :=
  match d.find n with
  | (_, some i, d1) => if zCa m.data.toList = false then (106, d1) else (0, d1.change ⟨m, if n = m then ByteArray.empty else n, some i⟩)
  | (c, none, d1) => (c, d1)
def Dk.remove (n : ByteArray) (d : Dk) : Nat × Dk :=
  match d.find n with
  | (_, some _, d1) => (0, d1.change ⟨ByteArray.empty, n, none⟩)
  | (c, none, d1) => (c, d1)
def Dk.syncDir (d : Dk) : Nat × Dk := if d.begin.1 ≠ 0 then (110, d.begin.2) else (0, { d.begin.2 with kept := d.begin.2.names, changes := [], calls := d.begin.2.calls + 1 })
def Dk.readR (n : ByteArray) (off k : Int) (d : Dk) : Nat × List UInt8 :=
  match d.file n with
  | (_, some i) => if off < 0 ∨ k < 0 ∨ ((d.fl i).b.length : Int) < off ∨ ((d.fl i).b.length : Int) - off < k then (105, []) else (0, ((d.fl i).b.take (off.toNat + k.toNat)).drop off.toNat)
  | (c, none) => (c, [])
def pickN (picks : List Int) (k n : Nat) : Nat := match picks[k]? with
  | some x => (x % ((n : Int) + 1)).toNat
  | none => 0
def zCr (l : List (ByteArray × Nat)) (cs : List Chg) : List (ByteArray × Nat) := cs.foldl (fun l c => c.app l) l
/-- The files that are kept, by their numbers. -/
def keptIds (fs : List (Nat × Fl)) (kept : List (ByteArray × Nat)) : List Nat := (zAl fs).filter fun i => decide (i ∈ kept.map (·.2))
def Fl.crashed (f : Fl) (picks : List Int) (k : Nat) : Fl := { f with b := f.b.take (f.syn + pickN picks (k + 1) (f.b.length - f.syn)), syn := (f.b.take (f.syn + pickN picks (k + 1) (f.b.length - f.syn))).length }
def zDz (picks : List Int) : Nat → List Nat → List (Nat × Fl) → List (Nat × Fl)
  | _, [], fs => fs
  | k, i :: l, fs => zDz picks (k + 1) l (match zB5 fs i with | some f => zCd fs i (f.crashed picks k) | none => fs)
def Dk.crash (picks : List Int) (d : Dk) : Dk :=
  let kept := zCr d.kept (d.changes.take (pickN picks 0 d.changes.length))
  { d with kept := kept, names := kept, changes := [], armed := 0, down := false, fs := zDz picks 0 (keptIds d.fs kept) d.fs }
/-- It hangs together. -/
structure Dk.okB (d : Dk) : Prop where
  room : d.room ≤ 4194304
  ids : (zAl d.fs).Pairwise (· < ·) ∧ ∀ i ∈ zAl d.fs, 1 ≤ i ∧ i ≤ d.files
  fid : ∀ i f, zB5 d.fs i = some f → f.id = i ∧ f.syn ≤ f.b.length ∧ f.b.length ≤ 4194304
  nnd : (zAl d.names).Nodup
  knd : (zAl d.kept).Nodup
  nin : ∀ x ∈ d.names, x.2 ∈ zAl d.fs
  kin : ∀ x ∈ d.kept, x.2 ∈ zAl d.fs
  cin : ∀ c ∈ d.changes, ∀ i, c.f = some i → i ∈ zAl d.fs
/-- And its numbers are no more than its calls. -/
structure Dk.ok (d : Dk) : Prop extends Dk.okB d where
  fcl : d.files ≤ d.calls
  nl : d.names.length ≤ d.calls
  kl : d.kept.length + d.changes.length ≤ d.calls
  al : d.armed ≤ 9223372036854775807
end Go.Proofs.YtdkgdjnbpjjfmaaGreatDoor
namespace Go.Proofs.YtdkgdjnbpjjfmaaGreatDoor
set_option linter.all false
open Go.RowKit
variable {d : Dk} {n m : ByteArray} {i : Nat}

theorem zEn {κ α : Type} [DecidableEq κ] {l : List (κ × α)} {k : κ} {v : α} (h : zB5 l k = some v) : k ∈ zAl l := List.mem_map_of_mem (zDx h)
theorem zE {κ α : Type} [DecidableEq κ] {l : List (κ × α)} {k : κ} (h : k ∈ zAl l) : ∃ v, zB5 l k = some v := by
  cases hc : zB5 l k with
  | some v => exact ⟨v, rfl⟩
  | none => exact absurd h ((zBe _ _).1 hc)
theorem aput_keys {κ α : Type} [DecidableEq κ] {l : List (κ × α)} {k : κ} {v : α} (h : k ∈ zAl l) : zAl (zCd l k v) = zAl l := by rw [zGe, if_pos h]
theorem aput_nodup {κ α : Type} [DecidableEq κ] {l : List (κ × α)} {k : κ} {v : α} (h : (zAl l).Nodup) : (zAl (zCd l k v)).Nodup := by
  rw [zGe]
  split
  · exact h
  · rename_i hn
    rw [List.nodup_append]; refine ⟨h, by simp, fun a ha c hc e => ?_⟩; simp only [List.mem_cons, List.not_mem_nil, or_false] at hc; subst hc; exact hn (e ▸ ha)
theorem aput_in {κ α : Type} [DecidableEq κ] {l : List (κ × α)} {k : κ} {v : α} {x : κ × α} (h : x ∈ zCd l k v) : x = (k, v) ∨ x ∈ l := by
  induction l with
  | nil => simp [zCd] at h; exact .inl h
  | cons y l ih =>
    obtain ⟨a, b⟩ := y; simp only [zCd] at h
    split at h
    · rcases List.mem_cons.1 h with h | h
      · exact .inl h
      · exact .inr (List.mem_cons_of_mem _ h)
    · rcases List.mem_cons.1 h with h | h
      · exact .inr (by rw [h]; exact List.mem_cons_self ..)
      · rcases ih h with h | h
        · exact .inl h
        · exact .inr (List.mem_cons_of_mem _ h)
theorem adel_in {κ α : Type} [DecidableEq κ] {l : List (κ × α)} {k : κ} {x : κ × α} (h : x ∈ zE8 l k) : x ∈ l := by
  induction l with
  | nil => simp [zE8] at h
  | cons y l ih =>
    obtain ⟨a, b⟩ := y; simp only [zE8] at h
    split at h
    · exact List.mem_cons_of_mem _ h
    · rcases List.mem_cons.1 h with h | h
      · rw [h]; exact List.mem_cons_self ..
      · exact List.mem_cons_of_mem _ (ih h)
theorem aput_end {κ α : Type} [DecidableEq κ] {l : List (κ × α)} {k : κ} {v : α} (h : k ∉ zAl l) : zCd l k v = l ++ [(k, v)] := by
  induction l with
  | nil => rfl
  | cons x l ih =>
    obtain ⟨a, b⟩ := x; simp only [zAl, List.map_cons, List.mem_cons, not_or] at h; simp only [List.cons_append, zCd]; rw [if_neg (fun e => h.1 e.symm), ih h.2]

theorem Dk.okB.key (h : d.okB) (hi : i ∈ zAl d.fs) : 1 ≤ i ∧ i ≤ d.files := h.ids.2 i hi
theorem Dk.okB.fresh (h : d.okB) : d.files + 1 ∉ zAl d.fs := fun hm => by have := h.key hm; omega
theorem Dk.okB.fl_some (h : d.okB) (hi : i ∈ zAl d.fs) : zB5 d.fs i = some (d.fl i) := by
  obtain ⟨f, hf⟩ := zE hi
  simp [Dk.fl, hf]
theorem Dk.begin_same (d : Dk) : d.begin.2.room = d.room ∧ d.begin.2.names = d.names ∧ d.begin.2.kept = d.kept ∧ d.begin.2.changes = d.changes ∧ d.begin.2.files = d.files ∧ d.begin.2.fs = d.fs ∧ d.begin.2.calls = d.calls ∧ d.begin.2.armed ≤ d.armed := by
  unfold Dk.begin
  split
  · exact ⟨rfl, rfl, rfl, rfl, rfl, rfl, rfl, Nat.le_refl _⟩
  · split
    · exact ⟨rfl, rfl, rfl, rfl, rfl, rfl, rfl, Nat.le_refl _⟩
    · split
      · exact ⟨rfl, rfl, rfl, rfl, rfl, rfl, rfl, Nat.zero_le _⟩
      · exact ⟨rfl, rfl, rfl, rfl, rfl, rfl, rfl, Nat.sub_le _ _⟩
theorem Dk.begin_code (d : Dk) : d.begin.1 = 0 ∨ d.begin.1 = 110 := by
  unfold Dk.begin
  split
  · exact .inr rfl
  · split
    · exact .inl rfl
    · split
      · exact .inr rfl
      · exact .inl rfl
/-- What hangs together hangs on these alone. -/
theorem Dk.okB.same {e : Dk} (h : d.okB) (h1 : e.room = d.room) (h2 : e.names = d.names) (h3 : e.kept = d.kept) (h4 : e.changes = d.changes) (h5 : e.files = d.files) (h6 : e.fs = d.fs) : e.okB :=
  ⟨h1 ▸ h.room, by rw [h6, h5]; exact h.ids, by rw [h6]; exact h.fid, by rw [h2]; exact h.nnd, by rw [h3]; exact h.knd, by rw [h2, h6]; exact h.nin, by rw [h3, h6]; exact h.kin, by rw [h4, h6]; exact h.cin⟩
theorem Dk.okB.begin (h : d.okB) : d.begin.2.okB := by
  obtain ⟨h1, h2, h3, h4, h5, h6, _⟩ := d.begin_same; exact h.same h1 h2 h3 h4 h5 h6
theorem Chg.app_nodup {c : Chg} {l : List (ByteArray × Nat)} (h : (zAl l).Nodup) : (zAl (c.app l)).Nodup := by
  have h1 : (zAl (if c.gone = ByteArray.empty then l else zE8 l c.gone)).Nodup := by
    split
    · exact h
    · rw [keys_del h]; exact h.filter _
  unfold Chg.app
  cases c.f with
  | none => exact h1
  | some i => exact aput_nodup h1
theorem Chg.app_in {c : Chg} {l : List (ByteArray × Nat)} {S : Nat → Prop} (h : ∀ x ∈ l, S x.2) (hc : ∀ i, c.f = some i → S i) : ∀ x ∈ c.app l, S x.2 := by
  have h1 : ∀ x ∈ (if c.gone = ByteArray.empty then l else zE8 l c.gone), S x.2 := by
    split
    · exact h
    · exact fun x hx => h x (adel_in hx)
  intro x hx
  unfold Chg.app at hx
  cases hf : c.f with
  | none => rw [hf] at hx; exact h1 x hx
  | some i =>
    rw [hf] at hx
    rcases aput_in hx with e | hx
    · rw [e]; exact hc i hf
    · exact h1 x hx
theorem Dk.okB.change (h : d.okB) {c : Chg} (hc : ∀ i, c.f = some i → i ∈ zAl d.fs) : (d.change c).okB :=
  ⟨h.room, h.ids, h.fid, Chg.app_nodup h.nnd, h.knd, Chg.app_in h.nin hc, h.kin, fun x hx i hi => by
    rcases List.mem_append.1 hx with hx | hx
    · exact h.cin x hx i hi
    · simp only [List.mem_cons, List.not_mem_nil, or_false] at hx; subst hx; exact hc i hi⟩
theorem Dk.okB.addF (h : d.okB) : ({ d with files := d.files + 1, fs := d.fs ++ [(d.files + 1, ⟨d.files + 1, [], 0⟩)] } : Dk).okB := by
  have hk : zAl (d.fs ++ [(d.files + 1, (⟨d.files + 1, [], 0⟩ : Fl))]) = zAl d.fs ++ [d.files + 1] := by simp [zAl]
  refine ⟨h.room, ?_, fun i f hf => ?_, h.nnd, h.knd, fun x hx => ?_, fun x hx => ?_, fun c hc i hi => ?_⟩
  · show (zAl (d.fs ++ _)).Pairwise _ ∧ ∀ i ∈ zAl (d.fs ++ _), 1 ≤ i ∧ i ≤ d.files + 1
    rw [hk]; refine ⟨List.pairwise_append.2 ⟨h.ids.1, by simp, fun a ha b hb => ?_⟩, fun i hi => ?_⟩
    · simp only [List.mem_cons, List.not_mem_nil, or_false] at hb
      have := h.key ha
      omega
    · rcases List.mem_append.1 hi with hi | hi
      · have := h.key hi; omega
      · simp only [List.mem_cons, List.not_mem_nil, or_false] at hi; omega
  · have hf : zB5 (d.fs ++ [(d.files + 1, (⟨d.files + 1, [], 0⟩ : Fl))]) i = some f := hf
    rw [← aput_end h.fresh] at hf
    by_cases e : i = d.files + 1
    · subst e; rw [zB9] at hf; cases hf; exact ⟨rfl, Nat.le_refl _, by simp⟩
    · rw [zB1 _ _ e] at hf; exact h.fid i f hf
  · show _ ∈ zAl (d.fs ++ _); rw [hk]; exact List.mem_append_left _ (h.nin x hx)
  · show _ ∈ zAl (d.fs ++ _); rw [hk]; exact List.mem_append_left _ (h.kin x hx)
  · show _ ∈ zAl (d.fs ++ _); rw [hk]; exact List.mem_append_left _ (h.cin c hc i hi)
theorem Dk.okB.setF (h : d.okB) (hi : i ∈ zAl d.fs) {f : Fl} (hf : f.id = i ∧ f.syn ≤ f.b.length ∧ f.b.length ≤ 4194304) (k : Nat) : ({ d.setF i f with calls := k } : Dk).okB := by
  have hk : zAl (zCd d.fs i f) = zAl d.fs := aput_keys hi; refine ⟨h.room, by show (zAl (zCd d.fs i f)).Pairwise _ ∧ ∀ j ∈ zAl (zCd d.fs i f), _; rw [hk]; exact h.ids, fun j x hx => ?_, h.nnd, h.knd, fun x hx => by show _ ∈ zAl (zCd d.fs i f); rw [hk]; exact h.nin x hx, fun x hx => by show _ ∈ zAl (zCd d.fs i f); rw [hk]; exact h.kin x hx, fun c hc j hj => by show _ ∈ zAl (zCd d.fs i f); rw [hk]; exact h.cin c hc j hj⟩; have hx : zB5 (zCd d.fs i f) j = some x := hx
  by_cases e : j = i
  · subst e; rw [zB9] at hx; cases hx; exact hf
  · rw [zB1 _ _ e] at hx; exact h.fid j x hx
theorem sum_mem {α : Type} (f : α → Nat) : ∀ {l : List α} {x : α}, x ∈ l → f x ≤ (l.map f).sum
  | y :: l, x, h => by
    simp only [List.map_cons, List.sum_cons]
    rcases List.mem_cons.1 h with rfl | h
    · omega
    · have := sum_mem f h; omega
theorem Dk.len_used (h : zB5 d.names n = some i) : d.len i ≤ d.used := sum_mem (fun x : ByteArray × Nat => d.len x.2) (zDx h)
theorem Dk.okB.len_eq (h : d.okB) (hi : i ∈ zAl d.fs) : d.len i = (d.fl i).b.length := by unfold Dk.len; rw [h.fl_some hi]; rfl
/-- What find tells. -/
theorem Dk.find_some {c : Nat} {d1 : Dk} (h : d.find n = (c, some i, d1)) : c = 0 ∧ d.begin = (0, d1) ∧ d1.down = false ∧ zB5 d1.names n = some i := by
  unfold Dk.find at h
  split at h
  · rename_i h0
    have hb : d.begin = (0, d.begin.2) := by rw [← h0]
    simp only [Prod.mk.injEq] at h; obtain ⟨h1, h2, rfl⟩ := h
    unfold Dk.file at h1 h2
    cases hd : d.begin.2.down with
    | true => rw [hd] at h2; simp at h2
    | false =>
      rw [hd] at h1 h2; simp only [Bool.false_eq_true, if_false] at h1 h2
      cases ha : zB5 d.begin.2.names n with
      | none => rw [ha] at h2; simp at h2
      | some j =>
        rw [ha] at h1 h2; simp only [Option.some.injEq] at h2; subst h2; exact ⟨h1.symm, hb, rfl, rfl⟩
  · simp at h
theorem adel_len {κ α : Type} [DecidableEq κ] (l : List (κ × α)) (k : κ) : (zE8 l k).length ≤ l.length := by
  induction l with
  | nil => simp [zE8]
  | cons x l ih =>
    obtain ⟨a, b⟩ := x; simp only [zE8]
    split
    · simp
    · simpa using ih
theorem adel_shrink {κ α : Type} [DecidableEq κ] : ∀ {l : List (κ × α)} {k : κ} {v : α}, zB5 l k = some v → (zE8 l k).length < l.length
  | (a, b) :: l, k, v, h => by
    simp only [zB5] at h; simp only [zE8]
    split at h
    · rename_i e; rw [if_pos e]; simp
    · rename_i e; rw [if_neg e]; have := adel_shrink h; simpa using this
theorem aput_len {κ α : Type} [DecidableEq κ] (l : List (κ × α)) (k : κ) (v : α) : (zCd l k v).length ≤ l.length + 1 := by
  induction l with
  | nil => simp [zCd]
  | cons x l ih =>
    obtain ⟨a, b⟩ := x; simp only [zCd]
    split
    · simp
    · simpa using ih
theorem Chg.app_len (c : Chg) (l : List (ByteArray × Nat)) : (c.app l).length ≤ l.length + 1 := by
  have h1 : (if c.gone = ByteArray.empty then l else zE8 l c.gone).length ≤ l.length := by
    split
    · exact Nat.le_refl _
    · exact adel_len _ _
  unfold Chg.app
  cases c.f with
  | none => exact Nat.le_succ_of_le h1
  | some i => exact Nat.le_trans (aput_len _ _ _) (by omega)
theorem Dk.ok.begin (h : d.ok) : d.begin.2.ok := by
  obtain ⟨h1, h2, h3, h4, h5, h6, h7, h8⟩ := d.begin_same; exact ⟨h.tookB.begin, by rw [h5, h7]; exact h.fcl, by rw [h2, h7]; exact h.nl, by rw [h3, h4, h7]; exact h.kl, by have := h.al; omega⟩
theorem Dk.ok.change (h : d.ok) {c : Chg} (hc : ∀ i, c.f = some i → i ∈ zAl d.fs) : (d.change c).ok := by
  have h1 := c.app_len d.names; have h2 := h.fcl; have h3 := h.nl; have h4 := h.kl; refine ⟨h.tookB.change hc, ?_, ?_, ?_, h.al⟩
  · show d.files ≤ d.calls + 1; omega
  · show (c.app d.names).length ≤ d.calls + 1; omega
  · show d.kept.length + (d.changes ++ [c]).length ≤ d.calls + 1; simp; omega
/-- With a new file. -/
def Dk.addF (d : Dk) : Dk := { d with files := d.files + 1, fs := d.fs ++ [(d.files + 1, ⟨d.files + 1, [], 0⟩)] }
theorem Dk.ok.create (h : d.ok) {c : Chg} (hc : ∀ i, c.f = some i → i = d.files + 1) : (d.addF.change c).ok := by
  have h1 := c.app_len d.names; have h2 := h.fcl; have h3 := h.nl; have h4 := h.kl; refine ⟨h.tookB.addF.change fun i hi => ?_, ?_, ?_, ?_, h.al⟩
  · rw [hc i hi]; simp [zAl]
  · show d.files + 1 ≤ d.calls + 1; omega
  · show (c.app d.names).length ≤ d.calls + 1; omega
  · show d.kept.length + (d.changes ++ [c]).length ≤ d.calls + 1; simp; omega
theorem Dk.ok.setF (h : d.ok) (hi : i ∈ zAl d.fs) {f : Fl} (hf : f.id = i ∧ f.syn ≤ f.b.length ∧ f.b.length ≤ 4194304) : ({ d.setF i f with calls := d.calls + 1 } : Dk).ok := by
  have h2 := h.fcl; have h3 := h.nl; have h4 := h.kl; refine ⟨h.tookB.setF hi hf _, ?_, ?_, ?_, h.al⟩
  · show d.files ≤ d.calls + 1; omega
  · show d.names.length ≤ d.calls + 1; omega
  · show d.kept.length + d.changes.length ≤ d.calls + 1; omega
theorem Dk.ok.syncDir (h : d.ok) : ({ d with kept := d.names, changes := [], calls := d.calls + 1 } : Dk).ok := by
  have h2 := h.fcl; have h3 := h.nl; refine ⟨⟨h.room, h.ids, h.fid, h.nnd, h.nnd, h.nin, h.nin, fun c hc => by simp at hc⟩, ?_, ?_, ?_, h.al⟩
  · show d.files ≤ d.calls + 1; omega
  · show d.names.length ≤ d.calls + 1; omega
  · show d.names.length + 0 ≤ d.calls + 1; omega
/-- What find leaves. -/
theorem Dk.find_dk {c : Nat} {o : Option Nat} {d1 : Dk} (h : d.find n = (c, o, d1)) : d1 = d.begin.2 := by
  unfold Dk.find at h
  split at h <;> (simp only [Prod.mk.injEq] at h; exact h.2.2.symm)
theorem Dk.ok.find (h : d.ok) {c : Nat} {o : Option Nat} {d1 : Dk} (hf : d.find n = (c, o, d1)) : d1.ok := Dk.find_dk hf ▸ h.begin
theorem Dk.okB.named (h : d.okB) (hn : zB5 d.names n = some i) : i ∈ zAl d.fs := h.nin _ (zDx hn)
theorem Dk.used_le (h : d.ok) : d.used ≤ d.calls * 4194304 := by
  have : ∀ l : List (ByteArray × Nat), (∀ x ∈ l, x.2 ∈ zAl d.fs) → (l.map fun x => d.len x.2).sum ≤ l.length * 4194304 := by
    intro l
    induction l with
    | nil => intro _; simp
    | cons x l ih =>
      intro hl
      have h1 := ih fun y hy => hl y (List.mem_cons_of_mem _ hy)
      have hx := hl x (List.mem_cons_self ..); have h2 := h.tookB.len_eq hx; have h3 := (h.fid _ _ (h.tookB.fl_some hx)).2.2; simp only [List.map_cons, List.sum_cons, List.length_cons]
      omega
  have h1 := this d.names h.nin; exact Nat.le_trans h1 (Nat.mul_le_mul_right _ h.nl)
end Go.Proofs.YtdkgdjnbpjjfmaaGreatDoor
namespace Go.Proofs.YtdkgdjnbpjjfmaaGreatDoor
set_option linter.all false
open Go.RowKit
variable {d : Dk} {picks : List Int} {n i k : Nat}

theorem pickN_le (picks : List Int) (k n : Nat) : pickN picks k n ≤ n := by
  unfold pickN
  cases picks[k]? with
  | none => exact Nat.zero_le _
  | some x =>
    have h1 := Int.emod_nonneg x (b := (n : Int) + 1) (by omega); have h2 := Int.emod_lt_of_pos x (b := (n : Int) + 1) (by omega)
    show (x % ((n : Int) + 1)).toNat ≤ n
    omega
theorem applyAll_props {cs : List Chg} {S : Nat → Prop} : ∀ {l : List (ByteArray × Nat)}, (zAl l).Nodup → (∀ x ∈ l, S x.2) → (∀ c ∈ cs, ∀ i, c.f = some i → S i) → (zAl (zCr l cs)).Nodup ∧ (∀ x ∈ zCr l cs, S x.2) ∧ (zCr l cs).length ≤ l.length + cs.length := by
  induction cs with
  | nil => exact fun h1 h2 _ => ⟨h1, h2, Nat.le_refl _⟩
  | cons c cs ih =>
    intro l h1 h2 h3
    have h4 := ih (l := c.app l) (Chg.app_nodup h1) (Chg.app_in h2 (h3 c (List.mem_cons_self ..))) fun c' hc => h3 c' (List.mem_cons_of_mem _ hc)
    have h5 := c.app_len l; refine ⟨h4.1, h4.2.1, ?_⟩; have h6 := h4.2.2; simp only [zCr, List.foldl_cons, List.length_cons] at h6 ⊢
    omega

/-! ### the files that are kept -/
theorem Dk.okB.keys_rise (h : d.okB) : (zAl d.fs).Pairwise (· < ·) := h.ids.1
theorem keptIds_mem {fs : List (Nat × Fl)} {kept : List (ByteArray × Nat)} : i ∈ keptIds fs kept ↔ i ∈ zAl fs ∧ i ∈ kept.map (·.2) := by simp [keptIds]
/-! ### what is cut off -/
def crashStep (picks : List Int) (k i : Nat) (fs : List (Nat × Fl)) : List (Nat × Fl) := match zB5 fs i with | some f => zCd fs i (f.crashed picks k) | none => fs
theorem zFk : ∀ (l : List Nat) (k : Nat) (fs : List (Nat × Fl)), zAl (zDz picks k l fs) = zAl fs
  | [], _, _ => rfl
  | j :: l, k, fs => by
    simp only [zDz]; rw [zFk l]
    cases h : zB5 fs j with
    | none => rfl
    | some f => exact aput_keys (zEn h)
theorem crashFs_other : ∀ (l : List Nat) (k : Nat) (fs : List (Nat × Fl)), i ∉ l → zB5 (zDz picks k l fs) i = zB5 fs i
  | [], _, _, _ => rfl
  | j :: l, k, fs, h => by
    simp only [List.mem_cons, not_or] at h; simp only [zDz]; rw [crashFs_other l _ _ h.2]
    cases hj : zB5 fs j with
    | none => rfl
    | some f => exact zB1 _ _ h.1
theorem crashFs_at : ∀ (l : List Nat) (k : Nat) (fs : List (Nat × Fl)) {q : Nat} {f : Fl}, l.Nodup → l[q]? = some i → zB5 fs i = some f → zB5 (zDz picks k l fs) i = some (f.crashed picks (k + q))
  | [], _, _, _, _, _, h, _ => by simp at h
  | j :: l, k, fs, 0, f, hn, h, hf => by
    simp only [List.getElem?_cons_zero, Option.some.injEq] at h; subst h; simp only [zDz, hf]; rw [crashFs_other l _ _ (List.nodup_cons.1 hn).1, zB9]
    rfl
  | j :: l, k, fs, q + 1, f, hn, h, hf => by
    simp only [List.getElem?_cons_succ] at h
    have hne : i ≠ j := fun e => (List.nodup_cons.1 hn).1 (e ▸ List.mem_of_getElem? h)
    simp only [zDz]; rw [show k + (q + 1) = k + 1 + q by omega]; refine crashFs_at l (k + 1) _ (List.nodup_cons.1 hn).2 h ?_
    cases hj : zB5 fs j with
    | none => exact hf
    | some f' => rw [← hf]; exact zB1 _ _ hne
theorem Fl.crashed_fine {f : Fl} (h : f.syn ≤ f.b.length) (picks : List Int) (k : Nat) : (f.crashed picks k).id = f.id ∧ (f.crashed picks k).syn ≤ (f.crashed picks k).b.length ∧ (f.crashed picks k).b.length ≤ f.b.length := by
  refine ⟨rfl, Nat.le_refl _, ?_⟩
  show (f.b.take _).length ≤ _
  simp
  omega
theorem zEp {P : Nat → Fl → Prop} (hP : ∀ i f picks k, P i f → P i (f.crashed picks k)) : ∀ (l : List Nat) (k : Nat) (fs : List (Nat × Fl)), (∀ i f, zB5 fs i = some f → P i f) → ∀ i f, zB5 (zDz picks k l fs) i = some f → P i f
  | [], _, _, h => h
  | j :: l, k, fs, h => by
    refine zEp hP l _ _ fun i f hf => ?_
    cases hj : zB5 fs j with
    | none => simp only [hj] at hf; exact h i f hf
    | some f' =>
      simp only [hj] at hf
      by_cases e : i = j
      · subst e; rw [zB9] at hf; cases hf; exact hP _ _ _ _ (h _ _ hj)
      · rw [zB1 _ _ e] at hf; exact h i f hf
theorem Dk.ok.crash (h : d.ok) (picks : List Int) : (d.crash picks).ok := by
  have h1 := applyAll_props (cs := d.changes.take (pickN picks 0 d.changes.length)) (l := d.kept) (S := fun i => i ∈ zAl d.fs) h.knd h.kin fun c hc i hi => h.cin c (List.mem_of_mem_take hc) i hi
  have h2 := h.kl; have h3 := h.fcl
  have h4 : (d.changes.take (pickN picks 0 d.changes.length)).length ≤ d.changes.length := by simp; omega
  have h5 := h1.2.2; refine ⟨⟨h.room, ?_, ?_, h1.1, h1.1, ?_, ?_, ?_⟩, h3, ?_, ?_, Nat.zero_le _⟩
  · show (zAl (zDz _ _ _ _)).Pairwise _ ∧ ∀ i ∈ zAl (zDz _ _ _ _), _; rw [zFk]; exact h.ids
  · exact zEp (P := fun i f => f.id = i ∧ f.syn ≤ f.b.length ∧ f.b.length ≤ 4194304) (fun i f picks k hf => by
      have := Fl.crashed_fine hf.2.1 picks k
      exact ⟨this.1.trans hf.1, this.2.1, Nat.le_trans this.2.2 hf.2.2⟩) _ _ _ h.fid
  · intro x hx; show _ ∈ zAl (zDz _ _ _ _); rw [zFk]; exact h1.2.1 x hx
  · intro x hx; show _ ∈ zAl (zDz _ _ _ _); rw [zFk]; exact h1.2.1 x hx
  · intro c hc; simp [Dk.crash] at hc
  · show (zCr _ _).length ≤ d.calls; omega
  · show (zCr _ _).length + 0 ≤ d.calls; omega
end Go.Proofs.YtdkgdjnbpjjfmaaGreatDoor
namespace Go.Proofs.YtdkgdjnbpjjfmaaGreatDoor
set_option linter.all false
open Go.RowKit
variable {d : Dk} {n m : ByteArray} {i : Nat} {b : List UInt8}

theorem Dk.begin_up (h1 : d.down = false) (h2 : d.armed = 0) : d.begin = (0, d) := by simp [Dk.begin, h1, h2]
theorem Dk.find_up (h1 : d.down = false) (h2 : d.armed = 0) (hn : zB5 d.names n = some i) : d.find n = (0, some i, d) := by simp [Dk.find, Dk.begin_up h1 h2, Dk.file, h1, hn]
theorem Dk.append_up (h1 : d.down = false) (h2 : d.armed = 0) (hn : zB5 d.names n = some i) (hr : d.used + b.length ≤ d.room) : d.append n b = (0, { d.setF i { d.fl i with b := (d.fl i).b ++ b } with calls := d.calls + 1 }) := by
  simp only [Dk.append, Dk.find_up h1 h2 hn]; rw [if_neg (by omega)]
theorem Dk.sync_up (h1 : d.down = false) (h2 : d.armed = 0) (hn : zB5 d.names n = some i) : d.sync n = (0, { d.setF i { d.fl i with syn := (d.fl i).b.length } with calls := d.calls + 1 }) := by simp only [Dk.sync, Dk.find_up h1 h2 hn]
theorem Dk.create_up (h1 : d.down = false) (h2 : d.armed = 0) (hv : zCa n.data.toList = true) (hn : zB5 d.names n = none) : d.create n = (0, ({ d with files := d.files + 1, fs := d.fs ++ [(d.files + 1, ⟨d.files + 1, [], 0⟩)] } : Dk).change ⟨n, ByteArray.empty, some (d.files + 1)⟩) := by simp [Dk.create, Dk.begin_up h1 h2, hv, hn]
theorem Dk.remove_up (h1 : d.down = false) (h2 : d.armed = 0) (hn : zB5 d.names n = some i) : d.remove n = (0, d.change ⟨ByteArray.empty, n, none⟩) := by simp only [Dk.remove, Dk.find_up h1 h2 hn]
theorem Dk.syncDir_up (h1 : d.down = false) (h2 : d.armed = 0) : d.syncDir = (0, { d with kept := d.names, changes := [], calls := d.calls + 1 }) := by simp [Dk.syncDir, Dk.begin_up h1 h2]
end Go.Proofs.YtdkgdjnbpjjfmaaGreatDoor
namespace Go.Proofs.YtdkgdjnbpjjfmaaGreatDoor
set_option linter.all false
open Go.RowKit
variable {g w : World} {L M : List HP} {p : Nat} {d : Dk} {ptr : List (Nat × Nat)}

def fptr (ptr : List (Nat × Nat)) (i : Nat) : Value := .pointer ((zB5 ptr i).map fun b => ⟨b, 0, none⟩)
theorem zG0 {i b : Nat} (h : zB5 ptr i = some b) : fptr ptr i = .pointer (some ⟨b, 0, none⟩) := by simp [fptr, h]
/-- Names as they stand in a map. -/
def nmV (ptr : List (Nat × Nat)) (l : List (ByteArray × Nat)) : List (ByteArray × Value) := l.map fun x => (x.1, fptr ptr x.2)
theorem nmV_get (l : List (ByteArray × Nat)) (n : ByteArray) : zB5 (nmV ptr l) n = (zB5 l n).map (fptr ptr) := by
  induction l with
  | nil => rfl
  | cons x l ih =>
    obtain ⟨a, b⟩ := x; simp only [nmV, List.map_cons, zB5] at ih ⊢
    split
    · rfl
    · exact ih
theorem nmV_put (l : List (ByteArray × Nat)) (n : ByteArray) (i : Nat) : nmV ptr (zCd l n i) = zCd (nmV ptr l) n (fptr ptr i) := by
  induction l with
  | nil => rfl
  | cons x l ih =>
    obtain ⟨a, b⟩ := x; simp only [nmV, List.map_cons, zCd] at ih ⊢
    split
    · simp
    · simp only [List.map_cons, ih]
theorem nmV_del (l : List (ByteArray × Nat)) (n : ByteArray) : nmV ptr (zE8 l n) = zE8 (nmV ptr l) n := by
  induction l with
  | nil => rfl
  | cons x l ih =>
    obtain ⟨a, b⟩ := x; simp only [nmV, List.map_cons, zE8] at ih ⊢
    split
    · rfl
    · simp only [List.map_cons, ih]
/-- A new file turns no name. -/
theorem nmV_more {l : List (ByteArray × Nat)} {k b : Nat} (h : ∀ x ∈ l, x.2 ≠ k) : nmV (zCd ptr k b) l = nmV ptr l := by
  unfold nmV
  refine List.map_congr_left fun x hx => ?_
  simp only [fptr]; rw [zB1 _ _ (h x hx)]
/-- A file: its block, its bytes. -/
def fiC (b : Nat) (f : Fl) : HP := ex fun v : Option Addr × Nat => stars [cells b [.int .i64 f.id, .slice v.1 f.b.length v.2, .int .i64 f.syn] 94, own (.slice v.1 f.b.length v.2) (zAm f.b)]
theorem Mem.openF {b : Nat} {f : Fl} (hs : Mem g w (fiC b f :: L)) : ∃ a c, Mem g w (cells b [.int .i64 f.id, .slice a f.b.length c, .int .i64 f.syn] 94 :: own (.slice a f.b.length c) (zAm f.b) :: L) := by
  obtain ⟨⟨a, c⟩, h⟩ := hs.unex; exact ⟨a, c, h.unstars⟩
theorem Mem.closeF {b : Nat} {f : Fl} {a : Option Addr} {c : Nat} (hs : Mem g w (cells b [.int .i64 f.id, .slice a f.b.length c, .int .i64 f.syn] 94 :: own (.slice a f.b.length c) (zAm f.b) :: L)) : Mem g w (fiC b f :: L) :=
  Mem.ex (f := fun v : Option Addr × Nat => Go.Proofs.YtdkgdjnbpjjfmaaGreatDoor.stars [cells b [.int .i64 f.id, .slice v.1 f.b.length v.2, .int .i64 f.syn] 94, own (.slice v.1 f.b.length v.2) (zAm f.b)]) (a, c) (Mem.stars (M := [cells b [.int .i64 f.id, .slice a f.b.length c, .int .i64 f.syn] 94, own (.slice a f.b.length c) (zAm f.b)]) hs)
/-- A change, as it stands in memory. -/
def chgV (ptr : List (Nat × Nat)) (c : Chg) : List Value := [.string c.name, .string c.gone, match c.f with | some i => fptr ptr i | none => .pointer none]
theorem chgV_more {cs : List Chg} {k b : Nat} (h : ∀ c ∈ cs, ∀ i, c.f = some i → i ≠ k) : cs.map (chgV (zCd ptr k b)) = cs.map (chgV ptr) := by
  refine List.map_congr_left fun c hc => ?_
  unfold chgV
  cases hf : c.f with
  | none => rfl
  | some i => simp only [fptr]; rw [zB1 _ _ (h c hc i hf)]
abbrev mapS (m : Nat) (es : List (ByteArray × Value)) : HP := mapC Value.string m es
def diskL (mn mk : Nat) (d : Dk) (sa : Option Addr) (sc : Nat) : List Value := [.int .i64 d.room, .map (some mn), .map (some mk), .slice sa d.changes.length sc, .int .i64 d.files, .int .i64 d.armed, .bool d.down, .int .i64 d.calls]
/-- The chunks of a disk. -/
abbrev zC9 (p : Nat) (d : Dk) (mn mk : Nat) (sa : Option Addr) (sc : Nat) (ptr : List (Nat × Nat)) : List HP :=
  [cells p (diskL mn mk d sa sc) 72, mapS mn (nmV ptr d.names), mapS mk (nmV ptr d.kept), zFp 3 (.slice sa d.changes.length sc) (d.changes.map (chgV ptr)), famC fiC ptr d.fs]
def zBz (p : Nat) (d : Dk) : HP := ex fun x : Nat × Nat × Option Addr × Nat × List (Nat × Nat) => also (stars (zC9 p d x.1 x.2.1 x.2.2.1 x.2.2.2.1 x.2.2.2.2)) d.ok
theorem Mem.openD (hs : Mem g w (zBz p d :: L)) : d.ok ∧ ∃ mn mk sa sc ptr, Mem g w (zC9 p d mn mk sa sc ptr ++ L) := by
  obtain ⟨⟨mn, mk, sa, sc, ptr⟩, h⟩ := hs.unex; obtain ⟨h1, h2⟩ := h.unalso; exact ⟨h1, mn, mk, sa, sc, ptr, h2.unstars⟩
theorem Mem.closeD {mn mk : Nat} {sa : Option Addr} {sc : Nat} (ho : d.ok) (hs : Mem g w (zC9 p d mn mk sa sc ptr ++ L)) : Mem g w (zBz p d :: L) :=
  Mem.ex (f := fun x : Nat × Nat × Option Addr × Nat × List (Nat × Nat) => Go.Proofs.YtdkgdjnbpjjfmaaGreatDoor.also (Go.Proofs.YtdkgdjnbpjjfmaaGreatDoor.stars (zC9 p d x.1 x.2.1 x.2.2.1 x.2.2.2.1 x.2.2.2.2)) d.ok) (mn, mk, sa, sc, ptr) (Mem.also ho hs.stars)
/-- What is known of a file that has a number. -/
theorem Dk.okB.ptrOf (ho : d.okB) (hs : Mem g w L) (k : Nat) (hk : L[k]? = some (famC fiC ptr d.fs)) {i : Nat} (hi : i ∈ zAl d.fs) : ∃ b, zB5 ptr i = some b ∧ fptr ptr i = .pointer (some ⟨b, 0, none⟩) ∧ zB5 d.fs i = some (d.fl i) := by
  have h1 := hs.famKeys k hk; obtain ⟨b, hb⟩ := zE (h1 ▸ hi : i ∈ zAl ptr); exact ⟨b, hb, zG0 hb, ho.fl_some hi⟩
/-- A file's length as it lies there. -/
theorem Mem.flCells (hs : Mem g w L) (k : Nat) (hk : L[k]? = some (famC fiC ptr d.fs)) {i b : Nat} {f : Fl} (hb : zB5 ptr i = some b) (hf : zB5 d.fs i = some f) : ∃ a c, w.cell? ⟨b, 0, none⟩ = some (.int .i64 f.id) ∧ w.cell? ⟨b, 1, none⟩ = some (.slice a f.b.length c) ∧ w.cell? ⟨b, 2, none⟩ = some (.int .i64 f.syn) := by
  have h1 := hs.famTake k hk hb hf; obtain ⟨a, c, h2⟩ := h1.openF; exact ⟨a, c, h2.cellAt 0 rfl (o := 0) rfl, h2.cellAt 0 rfl (o := 1) rfl, h2.cellAt 0 rfl (o := 2) rfl⟩
end Go.Proofs.YtdkgdjnbpjjfmaaGreatDoor
namespace Go.Proofs.YtdkgdjnbpjjfmaaGreatDoor
set_option linter.all false
open Go.RowKit
attribute [local irreducible] zAq
variable {g w : World} {L M : List HP} {ad : Nat → Addr} {p mn mk sc : Nat} {sa : Option Addr} {d : Dk} {ptr : List (Nat × Nat)}

/-- The codes that the disk speaks of. -/
def zE6 : List Nat := [105, 106, 107, 108, 109, 110]
theorem disk_all {c : Nat} (h : c ∈ zE6) : c ∈ allCodes := by
  simp only [zE6, allCodes, List.mem_cons, List.not_mem_nil, or_false] at *; omega
abbrev ErrK (ad : Nat → Addr) (g : World) : Prop := Errs zE6 ad g.heap.size g
theorem Errs.disk {ad : Nat → Addr} {B : Nat} {w : World} (h : Errs allCodes ad B w) : Errs zE6 ad B w :=
  ⟨fun c hc => h.pos c (disk_all hc), fun c hc => h.cell c (disk_all hc), fun c hc => h.block c (disk_all hc), fun c hc d hd => h.inj c (disk_all hc) d (disk_all hd), fun c hc => h.lt c (disk_all hc)⟩
theorem Dk.empty_ok {r : Nat} (h : r ≤ 4194304) : (Dk.empty r).ok := by
  refine ⟨⟨h, ⟨by simp [Dk.empty, zAl], fun i hi => by simp [Dk.empty, zAl] at hi⟩, fun i f hf => (by cases hf), by simp [Dk.empty, zAl], by simp [Dk.empty, zAl], fun x hx => (by simp [Dk.empty] at hx), fun x hx => (by simp [Dk.empty] at hx), fun x hx => (by simp [Dk.empty] at hx)⟩, Nat.le_refl _, Nat.le_refl _, Nat.le_refl _, by simp [Dk.empty]⟩
theorem rows_nil (w : World) : (zFp 3 (.slice none 0 0) []).ok (fun _ => False) w := zEg 3 w
theorem newd_sl (hs : Mem g w L) {r : Nat} (h1 : 1 ≤ r) (h2 : r ≤ 4194304) : Calls Tryz.prog 9 #[.int .i64 r] w (Ret fun v w' => ∃ p, v = .tuple #[.pointer (some ⟨p, 0, none⟩), .nilIface] ∧ Mem g w' (zBz p (Dk.empty r) :: L)) := by
  refine zAo Tryz.func9 rfl rfl ?_
  skip
  refine zA6 (zA1 ?_); refine zA rfl (zA2 (v := .pointer none) rfl) ?_; refine zA rfl (zA2 (v := .nilIface) rfl) ?_; refine zA4 ?_; refine zA6 ?_; refine zA6 (zA1 ?_); refine zA rfl (zA0 (v := .int .i64 _) rfl) ?_; refine zA rfl (zB7 rfl rfl) ?_; refine zA rfl (zA0 (v := .bool _) rfl) ?_; refine zAi rfl rfl (decide_eq_false (by omega)) ?_; refine zA rfl (zA0 (v := .int .i64 _) rfl) ?_; refine zAi rfl rfl (decide_eq_false (by omega)) ?_; refine zA rfl (zBi rfl rfl) ?_; refine zA rfl (zAk (v := .bool _) rfl (decide_eq_false (by omega)) rfl) ?_; refine zA4 ?_; refine zAx rfl (decide_eq_false (by omega)) ?_; refine zAf ?_; refine zA6 (zA1 ?_); refine zA rfl (zA0 (v := .int .i64 _) rfl) ?_
  refine lw_makeMap Value.string hs rfl ?_; clear hs; intro m12 w hs
  try simp only [List.set_cons_succ, List.set_cons_zero] at hs
  refine lw_makeMap Value.string hs rfl ?_; clear hs; intro m13 w hs
  try simp only [List.set_cons_succ, List.set_cons_zero] at hs
  refine zA rfl (zC3 (cs := [.int .i64 r, .map (some m12), .map (some m13), .slice none 0 0, .int .i64 0, .int .i64 0, .bool false, .int .i64 0]) uz72 ze72 pl72 rfl) ?_; refine zCj (v := .agg _) hs rfl rfl ?_; clear hs; intro b15 w hs; refine zA rfl (zA2 (v := .pointer (some _)) rfl) ?_; refine zA rfl (zA2 (v := .nilIface) rfl) ?_; refine zA4 ?_; refine zAg ?_; refine res2 (v := .pointer (some _)) (v2 := .nilIface) rfl rfl rfl ?_; refine ⟨_, rfl, b15, rfl, Mem.closeD (mn := m12) (mk := m13) (sa := none) (sc := 0) (ptr := []) (Dk.empty_ok h2) ?_⟩; exact ((hs.addE (rows_nil _)).addE (famC_nil (R := fiC) _)).arr [2, 4, 3, 1, 0] 5 (by decide)

theorem begin_sl (hE : ErrK ad g) (ho : d.ok) (hs : Mem g w (zC9 p d mn mk sa sc ptr ++ L)) : Calls Tryz.prog 73 #[.pointer (some ⟨p, 0, none⟩)] w (Ret fun v w' => v = zAq ad d.begin.1 ∧ Mem g w' (zC9 p d.begin.2 mn mk sa sc ptr ++ L)) := by
  have hal := ho.al; refine zAo Tryz.func73 rfl rfl ?_
  skip
  refine zA6 (zA1 ?_); refine zA rfl (zA2 (v := .nilIface) rfl) ?_; refine zA4 ?_; refine zA6 ?_; refine zA6 (zA1 ?_); refine zA rfl (zA0 (v := .pointer (some _)) rfl) ?_; refine zA rfl (zA7 rfl) ?_; refine zA rfl (zA3 (o' := 6) uz72 rfl sz4 rfl rfl rfl) ?_; refine zA rfl (zA8 uz4 rfl rfl (hs.cellAt 0 rfl rfl)) ?_; refine zA4 ?_; refine zB8 rfl ?_ ?_
  ·
   intro h6; refine zA6 (zA1 ?_); refine zA rfl (zA8 zCq rfl rfl (hE.cellW hs 110 (by decide) rfl)) ?_; refine zA rfl (zA2 (v := zAq ad _) rfl) ?_; refine zA4 ?_; refine zAg ?_; refine zBl (v := zAq ad _) rfl rfl ?_
   have e : d.begin = (110, d) := by simp [Dk.begin, h6]
   rw [e]; exact ⟨_, rfl, rfl, hs⟩
  ·
   intro h6; refine zAf ?_; refine zA6 ?_; refine zA6 (zA1 ?_); refine zA rfl (zA0 (v := .pointer (some _)) rfl) ?_; refine zA rfl (zA7 rfl) ?_; refine zA rfl (zA3 (o' := 5) uz72 rfl sz3 rfl rfl rfl) ?_; refine zA rfl (zA8 uz3 rfl rfl (hs.cellAt 0 rfl rfl)) ?_; refine zA rfl (zBi rfl rfl) ?_; refine zA4 ?_; refine zB8 rfl ?_ ?_
   ·
    intro h12; have g12 := of_decide_eq_true h12; refine zA6 (zA1 ?_); refine zA rfl (zA0 (v := .pointer (some _)) rfl) ?_; refine zA rfl (zA7 rfl) ?_; refine zA rfl (zA3 (o' := 5) uz72 rfl sz3 rfl rfl rfl) ?_; refine zA rfl (zA8 uz3 rfl rfl (hs.cellAt 0 rfl rfl)) ?_; refine zA rfl (zCg rfl rfl (c := ((d.armed - 1 : Nat) : Int)) (by omega) (inI (by omega) (by omega))) ?_; refine zA rfl (zA7 rfl) ?_; refine zA rfl (zA3 (o' := 5) uz72 rfl sz3 rfl rfl rfl) ?_; refine zAr (v := .int .i64 _) hs 0 rfl sz3 rfl rfl rfl rfl ?_; clear hs; intro w hs
    try simp only [List.set_cons_succ, List.set_cons_zero] at hs
    refine zA4 (zA6 (zA1 ?_)); refine zA rfl (zA0 (v := .pointer (some _)) rfl) ?_; refine zA rfl (zA7 rfl) ?_; refine zA rfl (zA3 (o' := 5) uz72 rfl sz3 rfl rfl rfl) ?_; refine zA rfl (zA8 uz3 rfl rfl (hs.cellAt 0 rfl rfl)) ?_; refine zA rfl (zBn rfl rfl) ?_; refine zA4 ?_; refine zB8 rfl ?_ ?_
    ·
     intro h24; have g24 := of_decide_eq_true h24; refine zA6 (zA1 ?_); refine zA rfl (zA0 (v := .pointer (some _)) rfl) ?_; refine zA rfl (zA7 rfl) ?_; refine zA rfl (zA3 (o' := 6) uz72 rfl sz4 rfl rfl rfl) ?_; refine zAr (v := .bool _) hs 0 rfl sz4 rfl rfl rfl rfl ?_; clear hs; intro w hs
     try simp only [List.set_cons_succ, List.set_cons_zero] at hs
     refine zA4 (zA6 (zA1 ?_)); refine zA rfl (zA8 zCq rfl rfl (hE.cellW hs 110 (by decide) rfl)) ?_; refine zA rfl (zA2 (v := zAq ad _) rfl) ?_; refine zA4 ?_; refine zAg ?_; refine zBl (v := zAq ad _) rfl rfl ?_
     have e : d.begin = (110, { d with armed := 0, down := true }) := by simp [Dk.begin, h6, show ¬ d.armed = 0 by omega, show d.armed = 1 by omega]
     rw [show d.armed - 1 = 0 by omega] at hs; rw [e]; exact ⟨_, rfl, rfl, hs⟩
    ·
     intro h24; have g24 := of_decide_eq_false h24; refine zAf ?_; refine zA6 (zA1 ?_); refine zA rfl (zA2 (v := .nilIface) rfl) ?_; refine zA4 ?_; refine zAg ?_; refine zBl (v := .nilIface) rfl rfl ?_
     have e : d.begin = (0, { d with armed := d.armed - 1 }) := by simp [Dk.begin, h6, show ¬ d.armed = 0 by omega, show ¬ d.armed = 1 by omega]
     rw [e]; exact ⟨_, rfl, (zB6 ad).symm, hs⟩
   ·
    intro h12; have g12 := of_decide_eq_false h12; refine zAf ?_; refine zA6 (zA1 ?_); refine zA rfl (zA2 (v := .nilIface) rfl) ?_; refine zA4 ?_; refine zAg ?_; refine zBl (v := .nilIface) rfl rfl ?_
    have e : d.begin = (0, d) := by simp [Dk.begin, h6, show d.armed = 0 by omega]
    rw [e]; exact ⟨_, rfl, (zB6 ad).symm, hs⟩

/-- What file and find tell. -/
def FileRet (g : World) (ad : Nat → Addr) (L : List HP) (p mn mk : Nat) (sa : Option Addr) (sc : Nat) (ptr : List (Nat × Nat)) (d : Dk) (r : Nat × Option Nat) (v : Value) (w' : World) : Prop :=
  (∃ c, c ∈ zE6 ∧ c ≠ 0 ∧ r = (c, none) ∧ v = .tuple #[.pointer none, zAq ad c] ∧ Mem g w' (zC9 p d mn mk sa sc ptr ++ L)) ∨
  (∃ i b, r = (0, some i) ∧ i ∈ zAl d.fs ∧ zB5 ptr i = some b ∧ zB5 d.fs i = some (d.fl i) ∧ v = .tuple #[.pointer (some ⟨b, 0, none⟩), .nilIface] ∧ Mem g w' (zC9 p d mn mk sa sc ptr ++ L))
theorem file_sl (hE : ErrK ad g) (ho : d.ok) (n : ByteArray) (hs : Mem g w (zC9 p d mn mk sa sc ptr ++ L)) : Calls Tryz.prog 44 #[.pointer (some ⟨p, 0, none⟩), .string n] w (Ret (FileRet g ad L p mn mk sa sc ptr d (d.file n))) := by
  cases hd : d.down with
  | true =>
    refine zAo Tryz.func44 rfl rfl ?_
    skip
    refine zA6 (zA1 ?_); refine zA rfl (zA2 (v := .pointer none) rfl) ?_; refine zA rfl (zA2 (v := .nilIface) rfl) ?_; refine zA4 ?_; refine zA6 ?_; refine zA6 (zA1 ?_); refine zA rfl (zA0 (v := .pointer (some _)) rfl) ?_; refine zA rfl (zA7 rfl) ?_; refine zA rfl (zA3 (o' := 6) uz72 rfl sz4 rfl rfl rfl) ?_; refine zA rfl (zA8 uz4 rfl rfl (hs.cellAt 0 rfl rfl)) ?_; refine zA4 ?_; refine zBb rfl (hd) ?_; refine zA6 ?_; refine zAy zBv hs ?_; intro w tr hK; replace hs := tr _ hs; clear tr; refine zA5 0 rfl rfl (fun w hs => zA8 zCq rfl rfl (hE.cellW hs 110 (by decide) rfl)) hK ?_; refine zA5 1 rfl rfl (fun w hs => zA2 (v := .pointer none) rfl) hK ?_
    refine zA5 2 rfl rfl (fun w hs => zA2 (v := zAq ad _) rfl) hK ?_; refine zAp (by kernel_rfl) ?_; clear hK; refine zAg ?_; refine res2 (v := .pointer none) (v2 := zAq ad _) rfl rfl rfl ?_; exact ⟨_, rfl, .inl ⟨110, by decide, by decide, by simp [Dk.file, hd], rfl, hs⟩⟩
  | false =>
    cases hn : zB5 d.names n with
    | none =>
      refine zAo Tryz.func44 rfl rfl ?_
      skip
      refine zA6 (zA1 ?_); refine zA rfl (zA2 (v := .pointer none) rfl) ?_; refine zA rfl (zA2 (v := .nilIface) rfl) ?_; refine zA4 ?_; refine zA6 ?_; refine zA6 (zA1 ?_); refine zA rfl (zA0 (v := .pointer (some _)) rfl) ?_; refine zA rfl (zA7 rfl) ?_; refine zA rfl (zA3 (o' := 6) uz72 rfl sz4 rfl rfl rfl) ?_; refine zA rfl (zA8 uz4 rfl rfl (hs.cellAt 0 rfl rfl)) ?_; refine zA4 ?_; refine zAx rfl (hd) ?_; refine zAf ?_; refine zA6 (zA1 ?_); refine zA rfl (zA0 (v := .pointer (some _)) rfl) ?_; refine zA rfl (zA7 rfl) ?_; refine zA rfl (zA3 (o' := 1) uz72 rfl sz69 rfl rfl rfl) ?_; refine zA rfl (zA8 uz69 rfl rfl (hs.cellAt 0 rfl rfl)) ?_; refine zA rfl (zA0 (v := .string _) rfl) ?_
      refine zA rfl (zG4 (hs.mapAt 1 rfl) zG6 uz69 uz9 ze90 rfl rfl (o := none) (by rw [nmV_get, hn]; rfl)) ?_; refine zA rfl (zA2 (v := .pointer none) rfl) ?_; refine zA4 ?_; refine zA6 ?_; refine zA6 (zA1 ?_); refine zA rfl (zA0 (v := .pointer none) rfl) ?_; refine zA rfl (run_eqpn uz90 rfl rfl) ?_; refine zA4 ?_; refine zBb rfl (rfl) ?_; refine zA6 ?_; refine zAy zBv hs ?_; intro w tr hK; replace hs := tr _ hs; clear tr; refine zA5 0 rfl rfl (fun w hs => zA8 zCq rfl rfl (hE.cellW hs 107 (by decide) rfl)) hK ?_; refine zA5 1 rfl rfl (fun w hs => zA2 (v := .pointer none) rfl) hK ?_; refine zA5 2 rfl rfl (fun w hs => zA2 (v := zAq ad _) rfl) hK ?_; refine zAp (by kernel_rfl) ?_
      clear hK; refine zAg ?_; refine res2 (v := .pointer none) (v2 := zAq ad _) rfl rfl rfl ?_; exact ⟨_, rfl, .inl ⟨107, by decide, by decide, by simp [Dk.file, hd, hn], rfl, hs⟩⟩
    | some i =>
      obtain ⟨b, hb, hp, hf⟩ := ho.ptrOf hs 4 rfl (ho.named hn); refine zAo Tryz.func44 rfl rfl ?_
      skip
      refine zA6 (zA1 ?_); refine zA rfl (zA2 (v := .pointer none) rfl) ?_; refine zA rfl (zA2 (v := .nilIface) rfl) ?_; refine zA4 ?_; refine zA6 ?_; refine zA6 (zA1 ?_); refine zA rfl (zA0 (v := .pointer (some _)) rfl) ?_; refine zA rfl (zA7 rfl) ?_; refine zA rfl (zA3 (o' := 6) uz72 rfl sz4 rfl rfl rfl) ?_; refine zA rfl (zA8 uz4 rfl rfl (hs.cellAt 0 rfl rfl)) ?_; refine zA4 ?_; refine zAx rfl (hd) ?_; refine zAf ?_; refine zA6 (zA1 ?_); refine zA rfl (zA0 (v := .pointer (some _)) rfl) ?_; refine zA rfl (zA7 rfl) ?_; refine zA rfl (zA3 (o' := 1) uz72 rfl sz69 rfl rfl rfl) ?_; refine zA rfl (zA8 uz69 rfl rfl (hs.cellAt 0 rfl rfl)) ?_; refine zA rfl (zA0 (v := .string _) rfl) ?_
      refine zA rfl (zG4 (hs.mapAt 1 rfl) zG6 uz69 uz9 ze90 rfl rfl (o := some (.pointer (some ⟨b, 0, none⟩))) (by rw [nmV_get, hn, Option.map_some, hp])) ?_; refine zA rfl (zA2 (v := .pointer (some _)) rfl) ?_; refine zA4 ?_; refine zA6 ?_; refine zA6 (zA1 ?_); refine zA rfl (zA0 (v := .pointer (some _)) rfl) ?_; refine zA rfl (run_eqpn uz90 rfl rfl) ?_; refine zA4 ?_; refine zAx rfl rfl ?_; refine zAf ?_; refine zA6 (zA1 ?_); refine zA rfl (zA0 (v := .pointer (some _)) rfl) ?_; refine zA rfl (zA2 (v := .pointer (some _)) rfl) ?_; refine zA rfl (zA2 (v := .nilIface) rfl) ?_; refine zA4 ?_; refine zAg ?_; refine res2 (v := .pointer (some _)) (v2 := .nilIface) rfl rfl rfl ?_
      exact ⟨_, rfl, .inr ⟨i, b, by simp [Dk.file, hd, hn], ho.named hn, hb, hf, rfl, hs⟩⟩
theorem find_sl (hE : ErrK ad g) (ho : d.ok) (n : ByteArray) (hs : Mem g w (zC9 p d mn mk sa sc ptr ++ L)) {c0 : Nat} {o : Option Nat} {d1 : Dk} (hf : d.find n = (c0, o, d1)) : Calls Tryz.prog 45 #[.pointer (some ⟨p, 0, none⟩), .string n] w (Ret (FileRet g ad L p mn mk sa sc ptr d1 (c0, o))) := by
  obtain rfl := Dk.find_dk hf; have hc := d.begin_code; refine zAo Tryz.func45 rfl rfl ?_
  skip
  refine zA6 (zA1 ?_); refine zA rfl (zA2 (v := .pointer none) rfl) ?_; refine zA rfl (zA2 (v := .nilIface) rfl) ?_; refine zA4 ?_; refine zA6 ?_; refine zA6 (zA1 ?_); refine zA rfl (zA0 (v := .pointer (some _)) rfl) ?_; refine zAb rfl en73 (begin_sl hE ho hs) ?_; clear hs; rintro _ w ⟨rfl, hs⟩; refine zA rfl (zA2 (v := zAq ad _) rfl) ?_; refine zA4 (zA6 (zA1 ?_)); refine zA rfl (zA0 (v := zAq ad _) rfl) ?_; refine zA rfl (zAt (ad := ad) rfl) ?_; refine zA4 ?_; refine zB8 rfl ?_ ?_
  ·
   intro h10; have g10 := ne_t h10; refine zA6 (zA1 ?_); refine zA rfl (zA0 (v := zAq ad _) rfl) ?_; refine zA rfl (zA2 (v := .pointer none) rfl) ?_; refine zA rfl (zA2 (v := zAq ad _) rfl) ?_; refine zA4 ?_; refine zAg ?_; refine res2 (v := .pointer none) (v2 := zAq ad _) rfl rfl rfl ?_
   have hb : d.begin.1 = 110 := by simp at h10; omega
   rw [hb]; refine ⟨_, rfl, .inl ⟨110, by decide, by decide, ?_, rfl, hs⟩⟩
   simp [Dk.find, hb] at hf
   simp [← hf.1, ← hf.2]
  ·
   intro h10; have g10 := ne_f h10; refine zAf ?_; refine zA6 (zA1 ?_); refine zA rfl (zA0 (v := .pointer (some _)) rfl) ?_; refine zA rfl (zA0 (v := .string _) rfl) ?_; refine zAb rfl en44 (file_sl hE ho.begin n hs) ?_; clear hs; rintro _ w ((⟨c14, hc14, h014, hr14, rfl, hs⟩) | (⟨i14, b14, hr14, hk14, hb14, hf14, rfl, hs⟩))
   ·
    refine zA rfl (zAa (v := .pointer none) rfl rfl) ?_; refine zA rfl (zAa (v := zAq ad _) rfl rfl) ?_; refine zA rfl (zA2 (v := .pointer none) rfl) ?_; refine zA rfl (zA2 (v := zAq ad _) rfl) ?_; refine zA4 ?_; refine zAg ?_; refine res2 (v := .pointer none) (v2 := zAq ad _) rfl rfl rfl ?_
    have hb : d.begin.1 = 0 := by simpa using h10
    simp only [Dk.find, hb, if_true, Prod.mk.injEq] at hf; exact ⟨_, rfl, .inl ⟨c14, hc14, h014, by rw [← hf.1, ← hf.2.1]; exact hr14, rfl, hs⟩⟩
   ·
    refine zA rfl (zAa (v := .pointer (some _)) rfl rfl) ?_; refine zA rfl (zAa (v := .nilIface) rfl rfl) ?_; refine zA rfl (zA2 (v := .pointer (some _)) rfl) ?_; refine zA rfl (zA2 (v := .nilIface) rfl) ?_; refine zA4 ?_; refine zAg ?_; refine res2 (v := .pointer (some _)) (v2 := .nilIface) rfl rfl rfl ?_
    have hb : d.begin.1 = 0 := by simpa using h10
    simp only [Dk.find, hb, if_true, Prod.mk.injEq] at hf; exact ⟨_, rfl, .inr ⟨i14, b14, by rw [← hf.1, ← hf.2.1]; exact hr14, hk14, hb14, hf14, rfl, hs⟩⟩

/-! ### apply, change -/
theorem dapply_sl {m : Nat} {l : List (ByteArray × Nat)} (hs : Mem g w (mapS m (nmV ptr l) :: L)) (c : Chg) (hp : ∀ i, c.f = some i → ∃ b, zB5 ptr i = some b) {row : List Value} (hrow : chgV ptr c = row) : Calls Tryz.prog 62 #[.map (some m), .agg row.toArray] w (Ret fun v w' => v = .tuple #[] ∧ Mem g w' (mapS m (nmV ptr (c.app l)) :: L)) := by
  subst hrow; obtain ⟨nm, gn, f⟩ := c
  cases f with
  | none =>
    simp only [chgV]; refine zAo Tryz.func62 rfl rfl ?_
    skip
    refine zA6 (zA1 ?_); refine zCj (v := .agg _) hs rfl rfl ?_; clear hs; intro b3 w hs; refine zA4 ?_; refine zA6 ?_; refine zA6 (zA1 ?_); refine zA rfl (zA3 (o' := 1) zG rfl sz9 rfl rfl rfl) ?_; refine zA rfl (zA8 uz9 rfl rfl (hs.cellAt 0 rfl rfl)) ?_; refine zA rfl (run_nes rfl rfl) ?_; refine zA4 ?_; refine zB8 rfl ?_ ?_
    ·
     intro h6; have g6 := ne_t h6; refine zA1 ?_; refine zA rfl (zA0 (v := .map _) rfl) ?_; refine zA rfl (zA3 (o' := 1) zG rfl sz9 rfl rfl rfl) ?_; refine zA rfl (zA8 uz9 rfl rfl (hs.cellAt 0 rfl rfl)) ?_; refine lw_delete hs rfl 1 rfl zG6 uz69 uz9 rfl rfl ?_; clear hs; intro w hs
     try simp only [List.set_cons_succ, List.set_cons_zero] at hs
     refine zA4 (zA6 (zA1 ?_)); refine zA rfl (zA3 (o' := 2) zG rfl sz90 rfl rfl rfl) ?_; refine zA rfl (zA8 uz90 rfl rfl (hs.cellAt 0 rfl rfl)) ?_; refine zA rfl (zEi uz90 rfl rfl) ?_; refine zA4 ?_; refine zAx rfl (rfl) ?_; refine zAf ?_; refine res0  rfl ?_; exact ⟨_, rfl, rfl, by have h1 := hs.tail; rw [← nmV_del] at h1; simp only [Chg.app]; rw [if_neg (show gn ≠ ByteArray.empty from g6)]; exact h1⟩
    ·
     intro h6; have g6 := ne_f h6; refine zAf ?_; refine zA6 (zA1 ?_); refine zA rfl (zA3 (o' := 2) zG rfl sz90 rfl rfl rfl) ?_; refine zA rfl (zA8 uz90 rfl rfl (hs.cellAt 0 rfl rfl)) ?_; refine zA rfl (zEi uz90 rfl rfl) ?_; refine zA4 ?_; refine zAx rfl (rfl) ?_; refine zAf ?_; refine res0  rfl ?_; exact ⟨_, rfl, rfl, by have h1 := hs.tail; simp only [Chg.app]; rw [if_pos (show gn = ByteArray.empty from g6)]; exact h1⟩
  | some i =>
    obtain ⟨b, hb⟩ := hp i rfl; simp only [chgV, zG0 hb]; refine zAo Tryz.func62 rfl rfl ?_
    skip
    refine zA6 (zA1 ?_); refine zCj (v := .agg _) hs rfl rfl ?_; clear hs; intro b3 w hs; refine zA4 ?_; refine zA6 ?_; refine zA6 (zA1 ?_); refine zA rfl (zA3 (o' := 1) zG rfl sz9 rfl rfl rfl) ?_; refine zA rfl (zA8 uz9 rfl rfl (hs.cellAt 0 rfl rfl)) ?_; refine zA rfl (run_nes rfl rfl) ?_; refine zA4 ?_; refine zB8 rfl ?_ ?_
    ·
     intro h6; have g6 := ne_t h6; refine zA1 ?_; refine zA rfl (zA0 (v := .map _) rfl) ?_; refine zA rfl (zA3 (o' := 1) zG rfl sz9 rfl rfl rfl) ?_; refine zA rfl (zA8 uz9 rfl rfl (hs.cellAt 0 rfl rfl)) ?_; refine lw_delete hs rfl 1 rfl zG6 uz69 uz9 rfl rfl ?_; clear hs; intro w hs
     try simp only [List.set_cons_succ, List.set_cons_zero] at hs
     refine zA4 (zA6 (zA1 ?_)); refine zA rfl (zA3 (o' := 2) zG rfl sz90 rfl rfl rfl) ?_; refine zA rfl (zA8 uz90 rfl rfl (hs.cellAt 0 rfl rfl)) ?_; refine zA rfl (zEi uz90 rfl rfl) ?_; refine zA4 ?_; refine zBb rfl rfl ?_; refine zA1 ?_; refine zA rfl (zA0 (v := .map _) rfl) ?_; refine zA rfl (zA3 (o' := 0) zG rfl sz9 rfl rfl rfl) ?_; refine zA rfl (zA8 uz9 rfl rfl (hs.cellAt 0 rfl rfl)) ?_; refine zA rfl (zA3 (o' := 2) zG rfl sz90 rfl rfl rfl) ?_; refine zA rfl (zA8 uz90 rfl rfl (hs.cellAt 0 rfl rfl)) ?_; refine zE0 (v := .pointer (some _)) hs 1 rfl zG6 uz69 uz9 rfl rfl rfl ?_; clear hs; intro w hs
     try simp only [List.set_cons_succ, List.set_cons_zero] at hs
     refine zA4 ?_; refine res0  rfl ?_; exact ⟨_, rfl, rfl, by have h1 := hs.tail; rw [← nmV_del, ← zG0 hb, ← nmV_put] at h1; simp only [Chg.app]; rw [if_neg (show gn ≠ ByteArray.empty from g6)]; exact h1⟩
    ·
     intro h6; have g6 := ne_f h6; refine zAf ?_; refine zA6 (zA1 ?_); refine zA rfl (zA3 (o' := 2) zG rfl sz90 rfl rfl rfl) ?_; refine zA rfl (zA8 uz90 rfl rfl (hs.cellAt 0 rfl rfl)) ?_; refine zA rfl (zEi uz90 rfl rfl) ?_; refine zA4 ?_; refine zBb rfl rfl ?_; refine zA1 ?_; refine zA rfl (zA0 (v := .map _) rfl) ?_; refine zA rfl (zA3 (o' := 0) zG rfl sz9 rfl rfl rfl) ?_; refine zA rfl (zA8 uz9 rfl rfl (hs.cellAt 0 rfl rfl)) ?_; refine zA rfl (zA3 (o' := 2) zG rfl sz90 rfl rfl rfl) ?_; refine zA rfl (zA8 uz90 rfl rfl (hs.cellAt 0 rfl rfl)) ?_; refine zE0 (v := .pointer (some _)) hs 1 rfl zG6 uz69 uz9 rfl rfl rfl ?_; clear hs; intro w hs
     try simp only [List.set_cons_succ, List.set_cons_zero] at hs
     refine zA4 ?_; refine res0  rfl ?_; exact ⟨_, rfl, rfl, by have h1 := hs.tail; rw [← zG0 hb, ← nmV_put] at h1; simp only [Chg.app]; rw [if_pos (show gn = ByteArray.empty from g6)]; exact h1⟩
theorem zsC : (Tryz.prog.info? 120).map (fun i => (i.zero, i.size)) = some (some (.agg #[.string ByteArray.empty, .string ByteArray.empty, .pointer none]), 3) := by
  have h := in120; obtain ⟨i, h1, h2⟩ := Option.map_eq_some_iff.1 h; simp only [Prod.mk.injEq] at h2; rw [h1, Option.map_some, h2.1, h2.2.1]
theorem row_form {ptr : List (Nat × Nat)} {c : Chg} (hp : ∀ i, c.f = some i → ∃ b, zB5 ptr i = some b) : ∃ P, chgV ptr c = [.string c.name, .string c.gone, P] ∧ P.oneCell' = true := by
  unfold chgV
  cases hf : c.f with
  | none => exact ⟨_, rfl, rfl⟩
  | some i => obtain ⟨b, hb⟩ := hp i hf; exact ⟨_, rfl, by simp [fptr, hb, Value.oneCell']⟩
theorem change_sl (hc : d.calls < 1000000000) (hn : d.changes.length < 1000000000) (hs : Mem g w (zC9 p d mn mk sa sc ptr ++ L)) (c : Chg) (hp : ∀ i, c.f = some i → ∃ b, zB5 ptr i = some b) {row : List Value} (hrow : chgV ptr c = row) : Calls Tryz.prog 75 #[.pointer (some ⟨p, 0, none⟩), .agg row.toArray] w (Ret fun v w' => v = .tuple #[] ∧ ∃ sa' sc', Mem g w' (zC9 p (d.change c) mn mk sa' sc' ptr ++ L)) := by
  subst hrow; obtain ⟨P, hrow, hP⟩ := row_form hp; rw [hrow]; refine zAo Tryz.func75 rfl rfl ?_
  skip
  refine zA6 (zA1 ?_); refine zCj (v := .agg _) hs rfl rfl ?_; clear hs; intro b3 w hs; refine zA4 ?_; refine zA6 ?_; refine zAy zBv (hs.drop 2) ?_; intro w tr hK; replace hs := tr _ hs; clear tr; refine zA5 0 rfl rfl (fun w hs => zA0 (v := .pointer (some _)) rfl) hK ?_; refine zA5 1 rfl rfl (fun w hs => zA7 rfl) hK ?_; refine zA5 2 rfl rfl (fun w hs => zA3 (o' := 1) uz72 rfl sz69 rfl rfl rfl) hK ?_; refine zA5 3 rfl rfl (fun w hs => zA8 uz69 rfl rfl (hs.cellAt 1 rfl rfl)) hK ?_; refine zA5 4 rfl rfl (fun w hs => zBc hs 0 rfl zG sz120 rfl) hK ?_; refine zA9 [5] ?_; refine ⟨⟨_, rfl, ?_⟩, trivial⟩; refine zAb rfl en62 (dapply_sl (hs.arr [2, 0, 1, 3, 4, 5] 6 (by decide)) c hp hrow) ?_
  clear hs; rintro _ w ⟨rfl, hs⟩; clear hK; have hK := hs.tail; refine zA4 ⟨hK, ?_⟩; refine zAp (by kernel_rfl) ?_; clear hK; refine zA6 ?_; refine zAy zBv ((hs.drop 4).drop 2) ?_; intro w tr hK; replace hs := tr _ hs; clear tr; refine zA5 0 rfl rfl (fun w hs => zA0 (v := .pointer (some _)) rfl) hK ?_; refine zA5 1 rfl rfl (fun w hs => zA0 (v := .pointer (some _)) rfl) hK ?_; refine zA5 2 rfl rfl (fun w hs => zA7 rfl) hK ?_; refine zA5 3 rfl rfl (fun w hs => zA3 (o' := 3) uz72 rfl sz70 rfl rfl rfl) hK ?_; refine zA5 5 rfl rfl (fun w hs => zBc hs 1 rfl zG sz120 rfl) hK ?_; refine zA9 [4, 6] ?_; refine ⟨⟨_, rfl, ?_⟩, ⟨_, rfl, ?_⟩, trivial⟩
  ·
   refine zA rfl (zA8 uz70 rfl rfl (hs.cellAt 2 rfl rfl)) ?_; clear hK; have hK := (hs.drop 4).drop 2; refine zA4 ⟨hK, ?_⟩; refine zA9 [6] ?_; refine ⟨⟨_, rfl, ?_⟩, trivial⟩; refine zAz hs rfl (row := [.string c.name, .string c.gone, P]) uz70 zsC rfl (by simp [Instr.fill, Value.cells, Array.range_succ, show Array.range 0 = #[] from by simp]) (by decide) (by decide) ?_; clear hs; intro b16 w hs; clear hK; have hK := (hs.tail.drop 4).drop 2; refine zA4 ⟨hK, ?_⟩; refine zA9 [7] ?_; refine ⟨⟨_, rfl, ?_⟩, trivial⟩
   refine zAv hs rfl 5 0 rfl rfl uz70 uz70 in120 rfl rfl (by simp only [List.all_cons, List.all_nil, hP]; rfl) rfl rfl (by simp only [List.length_map]; omega) (by simp only [List.length_map]; omega) ?_; clear hs; intro a17 c17 w hs; simp only [List.set_cons_succ, List.set_cons_zero] at hs; clear hK; have hK := (hs.tail.drop 4).drop 2; refine zA4 ⟨hK, ?_⟩; refine zA5 8 rfl rfl (fun w hs => zA7 rfl) hK ?_; refine zA5 9 rfl rfl (fun w hs => zA3 (o' := 3) uz72 rfl sz70 rfl rfl rfl) hK ?_; refine zA9 [10] ?_; refine ⟨⟨_, rfl, ?_⟩, trivial⟩; refine zAr (v := .slice _ _ _) hs 3 rfl sz70 rfl rfl rfl rfl ?_; clear hs; intro w hs
   try simp only [List.set_cons_succ, List.set_cons_zero] at hs
   clear hK; have hK := (hs.tail.drop 4).drop 2; refine zA4 ⟨hK, ?_⟩; refine zAp (by kernel_rfl) ?_; clear hK; refine zA1 ?_; refine zA rfl (zA0 (v := .pointer (some _)) rfl) ?_; refine zA rfl (zA7 rfl) ?_; refine zA rfl (zA3 (o' := 7) uz72 rfl sz3 rfl rfl rfl) ?_; refine zA rfl (zA8 uz3 rfl rfl (hs.cellAt 3 rfl rfl)) ?_; refine zA rfl (zAs rfl rfl rfl (inI (by omega) (by omega))) ?_; refine zA rfl (zA7 rfl) ?_; refine zA rfl (zA3 (o' := 7) uz72 rfl sz3 rfl rfl rfl) ?_; refine zAr (v := .int .i64 _) hs 3 rfl sz3 rfl rfl rfl rfl ?_; clear hs; intro w hs
   try simp only [List.set_cons_succ, List.set_cons_zero] at hs
   refine zA4 ?_; refine res0  rfl ?_; refine ⟨_, rfl, rfl, a17, c17, ?_⟩
   have e1 : (d.change c).changes.length = (d.changes.map (chgV ptr)).length + 1 := by simp [Dk.change]
   have e2 : (d.change c).changes.map (chgV ptr) = d.changes.map (chgV ptr) ++ [[.string c.name, .string c.gone, P]] := by simp [Dk.change, hrow]
   simp only [zC9, diskL, e1, e2]; exact hs.arr [3, 1, 4, 5, 6] 7 (by decide)
  ·
   refine zAz hs rfl (row := [.string c.name, .string c.gone, P]) uz70 zsC rfl (by simp [Instr.fill, Value.cells, Array.range_succ, show Array.range 0 = #[] from by simp]) (by decide) (by decide) ?_; clear hs; intro b16 w hs; clear hK; have hK := (hs.tail.drop 4).drop 2; refine zA4 ⟨hK, ?_⟩; refine zA9 [4] ?_; refine ⟨⟨_, rfl, ?_⟩, trivial⟩; refine zA rfl (zA8 uz70 rfl rfl (hs.cellAt 3 rfl rfl)) ?_; clear hK; have hK := (hs.tail.drop 4).drop 2; refine zA4 ⟨hK, ?_⟩; refine zA9 [7] ?_; refine ⟨⟨_, rfl, ?_⟩, trivial⟩
   refine zAv hs rfl 5 0 rfl rfl uz70 uz70 in120 rfl rfl (by simp only [List.all_cons, List.all_nil, hP]; rfl) rfl rfl (by simp only [List.length_map]; omega) (by simp only [List.length_map]; omega) ?_; clear hs; intro a17 c17 w hs; simp only [List.set_cons_succ, List.set_cons_zero] at hs; clear hK; have hK := (hs.tail.drop 4).drop 2; refine zA4 ⟨hK, ?_⟩; refine zA5 8 rfl rfl (fun w hs => zA7 rfl) hK ?_; refine zA5 9 rfl rfl (fun w hs => zA3 (o' := 3) uz72 rfl sz70 rfl rfl rfl) hK ?_; refine zA9 [10] ?_; refine ⟨⟨_, rfl, ?_⟩, trivial⟩; refine zAr (v := .slice _ _ _) hs 3 rfl sz70 rfl rfl rfl rfl ?_; clear hs; intro w hs
   try simp only [List.set_cons_succ, List.set_cons_zero] at hs
   clear hK; have hK := (hs.tail.drop 4).drop 2; refine zA4 ⟨hK, ?_⟩; refine zAp (by kernel_rfl) ?_; clear hK; refine zA1 ?_; refine zA rfl (zA0 (v := .pointer (some _)) rfl) ?_; refine zA rfl (zA7 rfl) ?_; refine zA rfl (zA3 (o' := 7) uz72 rfl sz3 rfl rfl rfl) ?_; refine zA rfl (zA8 uz3 rfl rfl (hs.cellAt 3 rfl rfl)) ?_; refine zA rfl (zAs rfl rfl rfl (inI (by omega) (by omega))) ?_; refine zA rfl (zA7 rfl) ?_; refine zA rfl (zA3 (o' := 7) uz72 rfl sz3 rfl rfl rfl) ?_; refine zAr (v := .int .i64 _) hs 3 rfl sz3 rfl rfl rfl rfl ?_; clear hs; intro w hs
   try simp only [List.set_cons_succ, List.set_cons_zero] at hs
   refine zA4 ?_; refine res0  rfl ?_; refine ⟨_, rfl, rfl, a17, c17, ?_⟩
   have e1 : (d.change c).changes.length = (d.changes.map (chgV ptr)).length + 1 := by simp [Dk.change]
   have e2 : (d.change c).changes.map (chgV ptr) = d.changes.map (chgV ptr) ++ [[.string c.name, .string c.gone, P]] := by simp [Dk.change, hrow]
   simp only [zC9, diskL, e1, e2]; exact hs.arr [3, 1, 4, 5, 6] 7 (by decide)
end Go.Proofs.YtdkgdjnbpjjfmaaGreatDoor
namespace Go.Proofs.YtdkgdjnbpjjfmaaGreatDoor
set_option linter.all false
open Go.RowKit
attribute [local irreducible] zAq
variable {g w : World} {L M : List HP} {ad : Nat → Addr}

/-- The codes that what is kept aside speaks of. -/
def zFy : List Nat := [101, 102, 105, 106, 107, 108, 109, 110]
abbrev ErrP (ad : Nat → Addr) (g : World) : Prop := Errs zFy ad g.heap.size g
theorem zEy {c : Nat} (h : c ∈ zE6) : c ∈ zFy := by
  simp only [zE6, zFy, List.mem_cons, List.not_mem_nil, or_false] at *; omega
theorem Errs.ofPoint {ad : Nat → Addr} {B : Nat} {w : World} (h : Errs zFy ad B w) : Errs zE6 ad B w :=
  ⟨fun c hc => h.pos c (zEy hc), fun c hc => h.cell c (zEy hc), fun c hc => h.block c (zEy hc), fun c hc d hd => h.inj c (zEy hc) d (zEy hd), fun c hc => h.lt c (zEy hc)⟩
def le4 (s : Nat) : List UInt8 := [UInt8.ofNat s, UInt8.ofNat (s / 2 ^ 8), UInt8.ofNat (s / 2 ^ 16), UInt8.ofNat (s / 2 ^ 24)]
/-- Bytes with their sum behind them. -/
def zBt (b : List UInt8) : List UInt8 := b ++ le4 (zFo 0 b)
def openL (b : List UInt8) : Nat × List UInt8 := if b.length < 4 then (101, []) else if zBt (b.take (b.length - 4)) = b then (0, b.take (b.length - 4)) else (102, [])
theorem zC1 (b : List UInt8) : (zBt b).length = b.length + 4 := by simp [zBt, le4]
theorem open_seal (b : List UInt8) : openL (zBt b) = (0, b) := by
  have h : (zBt b).take ((zBt b).length - 4) = b := by rw [zC1]; simp [zBt]
  unfold openL
  rw [if_neg (by rw [zC1]; omega), h, if_pos rfl]
theorem cof_sl (hs : Mem g w L) {b : Nat} {T : TypeId} {v : Value} {l : List UInt8} (i : Nat) (hi : L[i]? = some (cells b [v] T)) (hr : Rd g L v (zAm l)) (hlen : l.length ≤ 1073741824) : Calls Tryz.prog 122 #[.slice (some ⟨b, 0, none⟩) 1 1] w (Ret fun v w' => v = .int .u32 (zFo 0 l : Nat) ∧ Mem g w' L) := by
  have h1 : Rd g L (.slice (some ⟨b, 0, none⟩) 1 1) [v] := Rd.cells (n := 1) i hi rfl; exact hs.calls (of_any0 (h1 w hs) (hr w hs) hlen)
theorem seal_sl (hs : Mem g w L) {a : Option Addr} {n c : Nat} {l : List UInt8} (hr : Rd g L (.slice a n c) (zAm l)) (hn : n = l.length) (hlen : l.length ≤ 100000000) : Calls Tryz.prog 82 #[.slice a n c] w (Ret fun v w' => ∃ a' c', v = .slice a' (zBt l).length c' ∧ Mem g w' (own (.slice a' (zBt l).length c') (zAm (zBt l)) :: L)) := by
  subst hn; obtain ⟨s, hS⟩ : ∃ s, zFo 0 l = s := ⟨_, rfl⟩; have hs32 : s < 4294967296 := hS ▸ crcMore_lt (by decide) l; refine zAo Tryz.func82 rfl rfl ?_
  skip
  refine zA6 (zA1 ?_); refine zA rfl (zA2 (v := .slice _ _ _) rfl) ?_; refine zA4 (zA6 (zA1 ?_)); refine zA rfl (zA0 (v := .slice _ _ _) rfl) ?_; refine zC7 hs rfl ([.slice a l.length c]) uz176 zs23 rfl (by simp [Value.cells]) rfl rfl rfl ?_; clear hs; intro b5 w hs
  try simp only [List.set_cons_succ, List.set_cons_zero] at hs
  refine zAb rfl en122 (cof_sl hs 0 rfl hr.cons (by omega)) ?_; clear hs; rintro _ w ⟨rfl, hs⟩; rw [hS]; refine zA rfl (zA2 (v := .int .u32 _) rfl) ?_; refine zA4 (zA6 (zA1 ?_)); refine zA rfl (zA0 (v := .slice _ _ _) rfl) ?_; refine zAb rfl en46 (zFh hs (l := l) hr.cons (by omega)) ?_; clear hs; rintro _ w ⟨a8, c8, rfl, hs⟩; refine zA rfl (zA0 (v := .int .u32 _) rfl) ?_; refine zA rfl (zAh zDg uz5 rfl (c := (((UInt8.ofNat s).toNat : Nat) : Int)) (wrapB s)) ?_; refine zA rfl (zA0 (v := .int .u32 _) rfl) ?_; refine zA rfl (run_shr rfl rfl (n := 8) (c := ((s / 2 ^ 8 : Nat) : Int)) rfl (by decide) (by omega)) ?_
  refine zA rfl (zAh zDg uz5 rfl (c := (((UInt8.ofNat (s / 2 ^ 8)).toNat : Nat) : Int)) (wrapB _)) ?_; refine zA rfl (zA0 (v := .int .u32 _) rfl) ?_; refine zA rfl (run_shr rfl rfl (n := 16) (c := ((s / 2 ^ 16 : Nat) : Int)) rfl (by decide) (by omega)) ?_; refine zA rfl (zAh zDg uz5 rfl (c := (((UInt8.ofNat (s / 2 ^ 16)).toNat : Nat) : Int)) (wrapB _)) ?_; refine zA rfl (zA0 (v := .int .u32 _) rfl) ?_; refine zA rfl (run_shr rfl rfl (n := 24) (c := ((s / 2 ^ 24 : Nat) : Int)) rfl (by decide) (by omega)) ?_; refine zA rfl (zAh zDg uz5 rfl (c := (((UInt8.ofNat (s / 2 ^ 24)).toNat : Nat) : Int)) (wrapB _)) ?_; refine zC7 hs rfl ((zAm (le4 s))) zC0 zs5 rfl (zDs (zBy _)) rfl rfl rfl ?_; clear hs
  intro b20 w hs
  try simp only [List.set_cons_succ, List.set_cons_zero] at hs
  refine zCh hs rfl 1 rfl zC0 in5 rfl rfl rfl (zC5 (P := Tryz.prog) zC0 ((Rd.cells (n := 4) (cs := zAm (le4 s)) 0 rfl rfl).seq hs) (zBy (le4 s))) (by simp only [zAu, le4, List.length_cons, List.length_nil]; omega) (by simp only [zAu, le4, List.length_cons, List.length_nil]; omega) ?_; clear hs; intro a21 c21 w hs; simp only [List.set_cons_succ, List.set_cons_zero] at hs; refine zA rfl (zA2 (v := .slice _ _ _) rfl) ?_; refine zA4 ?_; refine zAg ?_; refine zBl (v := .slice _ _ _) rfl rfl ?_
  have e : zAm l ++ zAm (le4 s) = zAm (zBt l) := by rw [← zCi, zBt, hS]
  have e2 : (zAm l).length + (zAm (le4 s)).length = (zBt l).length := by rw [zAu, zAu, zC1]; rfl
  rw [e, e2] at hs; exact ⟨_, rfl, a21, c21, by rw [e2], hs.arr [1] 3 (by decide)⟩
theorem equalB_sl (hs : Mem g w L) {a b : Option Addr} {n m c d : Nat} {la lb : List UInt8} (ha : Rd g L (.slice a n c) (zAm la)) (hb : Rd g L (.slice b m d) (zAm lb)) (hn : n = la.length) (hm : m = lb.length) (hlen : la.length ≤ 1073741824) :
    Calls Tryz.prog 143 #[.slice a n c, .slice b m d] w (Ret fun v w' => v = .bool (decide (la = lb)) ∧ Mem g w' L) := by
  subst hn hm; refine zAo Tryz.func143 rfl rfl ?_
  skip
  refine zA6 (zA1 ?_); refine zA rfl (zA2 (v := .bool _) rfl) ?_; refine zA4 ?_; refine zA6 ?_; refine zA6 (zA1 ?_); refine zA rfl (zA0 (v := .slice _ _ _) rfl) ?_; refine zA rfl (zB2 zC0 rfl) ?_; refine zA rfl (zA0 (v := .slice _ _ _) rfl) ?_; refine zA rfl (zB2 zC0 rfl) ?_; refine zA rfl (zDh rfl rfl) ?_; refine zA4 ?_; refine zB8 rfl ?_ ?_
  ·
   intro h10; have g10 := ne_t h10; refine zA6 (zA1 ?_); refine zA rfl (zA2 (v := .bool _) rfl) ?_; refine zA4 ?_; refine zAg ?_; refine zBl (v := .bool _) rfl rfl ?_; exact ⟨_, rfl, zDa (by rw [decide_eq_false (fun e => g10 (by rw [e]))]), hs⟩
  ·
   intro h10; have g10 := ne_f h10; refine zAf ?_; refine zA6 ?_; refine zA6 (zA1 ?_); refine zA rfl (zA0 (v := .slice _ _ _) rfl) ?_; refine zA rfl (zB2 zC0 rfl) ?_; refine zA rfl (zA0 (v := .int .i64 _) rfl) ?_; refine zA4 ?_; refine zAw ?_; refine zBw (X := Nat) [4, 5, 13, 14, 15, 16, 17, 18, 19, 20, 21, 22, 23, 24, 25] (fun k => [(13, .int .i64 (k : Nat))]) (fun k w => k ≤ la.length ∧ la.take k = lb.take k ∧ Mem g w L) (fun k => la.length - k) (0) ?_ ?_ ?_
   · exact ⟨rfl, trivial⟩
   · exact ⟨Nat.zero_le _, rfl, hs⟩
   clear hs; rintro x ξ w hI; obtain ⟨hk, hq, hs⟩ := hI; refine zA6 (zA1 ?_); refine zA rfl (zB7 rfl rfl) ?_; refine zA4 ?_; refine zA6 ?_; refine zB8 rfl ?_ ?_
   ·
    intro h14; have g14 := of_decide_eq_true h14; obtain ⟨xa, hxa⟩ : ∃ xa, la[x]? = some xa := ⟨la[x]'(by omega), List.getElem?_eq_getElem _⟩; obtain ⟨xb, hxb⟩ : ∃ xb, lb[x]? = some xb := ⟨lb[x]'(by omega), List.getElem?_eq_getElem _⟩; obtain ⟨b1, o1, rfl, _⟩ := ha.cells' hs (by rw [zAu]; omega); obtain ⟨b2, o2, rfl, _⟩ := hb.cells' hs (by rw [zAu]; omega); refine zAf ?_; refine zA6 ?_; refine zAw ?_; refine zA6 (zA1 ?_); refine zA rfl (zA0 (v := .int .i64 _) rfl) ?_; refine zA rfl (zA2 (v := .int .i64 _) rfl) ?_; refine zA4 ?_; refine zA6 ?_; refine zAy zBv hs ?_; intro w tr hK; replace hs := tr _ hs; clear tr; refine zA5 0 rfl rfl (fun w hs => zA0 (v := .slice _ _ _) rfl) hK ?_
    refine zA5 1 rfl rfl (fun w hs => zA0 (v := .int .i64 _) rfl) hK ?_; refine zA5 2 rfl rfl (fun w hs => zBk zC0 sz5 rfl rfl rfl (by omega) rfl) hK ?_; refine zA5 3 rfl rfl (fun w hs => zA8 uz5 rfl rfl (ha.cellAt hs (zE2 hxa))) hK ?_; refine zA5 4 rfl rfl (fun w hs => zA0 (v := .slice _ _ _) rfl) hK ?_; refine zA5 5 rfl rfl (fun w hs => zA0 (v := .int .i64 _) rfl) hK ?_; refine zA5 6 rfl rfl (fun w hs => zBk zC0 sz5 rfl rfl rfl (by omega) rfl) hK ?_; refine zA5 7 rfl rfl (fun w hs => zA8 uz5 rfl rfl (hb.cellAt hs (zE2 hxb))) hK ?_; refine zA5 8 rfl rfl (fun w hs => zDh rfl rfl) hK ?_; refine zAp (by kernel_rfl) ?_; clear hK; refine zB8 rfl ?_ ?_
    ·
     intro h24; have g24 := ne_t h24; refine zA6 (zA1 ?_); refine zA rfl (zA2 (v := .bool _) rfl) ?_; refine zA4 ?_; refine zAg ?_; refine zBl (v := .bool _) rfl rfl ?_; exact ⟨_, rfl, zDa (by rw [decide_eq_false (fun e => by subst e; rw [hxa] at hxb; cases hxb; exact g24 rfl)]), hs⟩
    ·
     intro h24; have g24 := ne_f h24; refine zAf ?_; refine zA1 ?_; refine zA rfl (zAs rfl rfl rfl (inI (by omega) (by omega))) ?_; refine zA rfl (zA0 (v := .int .i64 _) rfl) ?_; refine zA4 ?_; exact ⟨x + 1, by omega, ⟨by omega, by rw [List.take_add_one, List.take_add_one, hxa, hxb, hq, u8v_inj g24], hs⟩, ⟨rfl, trivial⟩, by repeat (first | exact Out.mix _ _ _ | refine Out.updo rfl ?_ | refine Out.upd rfl ?_ | refine Out.mixIn rfl ?_)⟩
   ·
    intro h14; have g14 := of_decide_eq_false h14; refine zBg rfl ?_; refine zA6 (zA1 ?_); refine zA rfl (zA2 (v := .bool _) rfl) ?_; refine zA4 ?_; refine zAg ?_; refine zBl (v := .bool _) rfl rfl ?_
    have h1 : x = la.length := by omega
    rw [h1, List.take_of_length_le (Nat.le_refl _), List.take_of_length_le (by omega)] at hq; exact ⟨_, rfl, zDa (decide_eq_true hq).symm, hs⟩
theorem copen_sl (hE : ErrP ad g) (hs : Mem g w L) {a : Option Addr} {n c : Nat} {l : List UInt8} (hr : Rd g L (.slice a n c) (zAm l)) (hn : n = l.length) (hc : n ≤ c) (hlen : l.length ≤ 100000000) {k : Nat} {b : List UInt8} (hk : openL l = (k, b)) : Calls Tryz.prog 108 #[.slice a n c] w (Ret fun v w' => ∃ a' c', v = .tuple #[.slice a' b.length c', zAq ad k] ∧ Mem g w' (own (.slice a' b.length c') (zAm b) :: L)) := by
  subst hn; refine zAo Tryz.func108 rfl rfl ?_
  skip
  refine zA6 (zA1 ?_); refine zA rfl (zA2 (v := .slice _ _ _) rfl) ?_; refine zA rfl (zA2 (v := .nilIface) rfl) ?_; refine zA4 ?_; refine zA6 ?_; refine zA6 (zA1 ?_); refine zA rfl (zA0 (v := .slice _ _ _) rfl) ?_; refine zA rfl (zB2 zC0 rfl) ?_; refine zA rfl (zB7 rfl rfl) ?_; refine zA4 ?_; refine zB8 rfl ?_ ?_
  ·
   intro h7; have g7 := of_decide_eq_true h7
   have e : openL l = (101, []) := by unfold openL; rw [if_pos (by omega)]
   rw [e] at hk
   cases hk
   refine zA6 ?_; refine zAy zBv hs ?_; intro w tr hK; replace hs := tr _ hs; clear tr; refine zA5 0 rfl rfl (fun w hs => zA8 zCq rfl rfl (hE.cellW hs 101 (by decide) rfl)) hK ?_; refine zA5 1 rfl rfl (fun w hs => zA2 (v := .slice _ _ _) rfl) hK ?_; refine zA5 2 rfl rfl (fun w hs => zA2 (v := zAq ad _) rfl) hK ?_; refine zAp (by kernel_rfl) ?_; clear hK; refine zAg ?_; refine res2 (v := .slice _ _ _) (v2 := zAq ad _) rfl rfl rfl ?_; exact ⟨_, rfl, none, 0, rfl, hs.addE (zDo _)⟩
  ·
   intro h7; have g7 := of_decide_eq_false h7; refine zAf ?_; refine zA6 (zA1 ?_); refine zA rfl (zA0 (v := .slice _ _ _) rfl) ?_; refine zA rfl (zA0 (v := .slice _ _ _) rfl) ?_; refine zA rfl (zB2 zC0 rfl) ?_; refine zA rfl (zCg rfl rfl (c := ((l.length - 4 : Nat) : Int)) (by omega) (inI (by omega) (by omega))) ?_; refine zA rfl (zFa zC0 sz5 rfl rfl (hi := l.length - 4) rfl (by omega)) ?_; refine zA rfl (zA2 (v := .slice _ _ _) rfl) ?_; refine zA4 ?_; refine zA6 ?_; refine zA6 (zA1 ?_); refine zA rfl (zA0 (v := .slice _ _ _) rfl) ?_; refine zAb rfl en82 (seal_sl hs (l := (l.take (l.length - 4)).drop 0) (hr.subB (by omega) (by omega)) (by simp) (by simp; omega)) ?_; clear hs
   rintro _ w ⟨a15, c15, rfl, hs⟩; refine zA rfl (zA0 (v := .slice _ _ _) rfl) ?_; refine zAb rfl en143 (equalB_sl hs (la := zBt (l.take (l.length - 4))) (lb := l) (hs.rdOwn 0 rfl) hr.cons rfl rfl (by rw [zC1, List.length_take]; omega)) ?_; clear hs; rintro _ w ⟨rfl, hs⟩; refine zA rfl (zC4 rfl) ?_; refine zA4 ?_; refine zB8 rfl ?_ ?_
   ·
    intro h17; replace h17 := zFu h17; have hne := of_decide_eq_false h17
    have e : openL l = (102, []) := by unfold openL; rw [if_neg (by omega), if_neg hne]
    rw [e] at hk
    cases hk
    refine zA6 ?_; refine zAy zBv hs ?_; intro w tr hK; replace hs := tr _ hs; clear tr; refine zA5 0 rfl rfl (fun w hs => zA8 zCq rfl rfl (hE.cellW hs 102 (by decide) rfl)) hK ?_; refine zA5 1 rfl rfl (fun w hs => zA2 (v := .slice _ _ _) rfl) hK ?_; refine zA5 2 rfl rfl (fun w hs => zA2 (v := zAq ad _) rfl) hK ?_; refine zAp (by kernel_rfl) ?_; clear hK; refine zAg ?_; refine res2 (v := .slice _ _ _) (v2 := zAq ad _) rfl rfl rfl ?_; exact ⟨_, rfl, none, 0, rfl, (hs.tail).addE (zDo _)⟩
   ·
    intro h17; replace h17 := zEs h17; have heq := of_decide_eq_true h17
    have e : openL l = (0, l.take (l.length - 4)) := by unfold openL; rw [if_neg (by omega), if_pos heq]
    rw [e] at hk
    cases hk
    refine zAf ?_; refine zA6 (zA1 ?_); refine zA rfl (zA0 (v := .slice _ _ _) rfl) ?_; refine zAb rfl en46 (zFh hs (l := (l.take (l.length - 4)).drop 0) (hr.cons.subB (by omega) (by omega)) (by simp; omega)) ?_; clear hs; rintro _ w ⟨a21, c21, rfl, hs⟩; refine zA rfl (zA2 (v := .slice _ _ _) rfl) ?_; refine zA rfl (zA2 (v := .nilIface) rfl) ?_; refine zA4 ?_; refine zAg ?_; refine res2 (v := .slice _ _ _) (v2 := .nilIface) rfl rfl rfl ?_; rw [zAu] at hs ⊢; exact ⟨_, rfl, a21, c21, by rw [zB6]; rfl, hs.drop 1⟩

end Go.Proofs.YtdkgdjnbpjjfmaaGreatDoor
namespace Go.Proofs.YtdkgdjnbpjjfmaaGreatDoor
set_option linter.all false
open Go.RowKit
attribute [local irreducible] zAq
variable {g w : World} {L M : List HP} {ad : Nat → Addr} {p : Nat} {V : Vw}

def idB (n : Int) : List UInt8 := zB4 n.toNat
def prB (q : Pr) : List UInt8 := idB q.1 ++ idB q.2
def epB (l : List Pr) : List UInt8 := l.flatMap prB
def oB (o : Ob) : List UInt8 := zB4 o.1.size ++ o.1.data.toList ++ idB o.2.1 ++ zB4 o.2.2
def obB (l : List Ob) : List UInt8 := l.flatMap oB
def hdB (x : Mf) : List UInt8 := idB x.id ++ idB x.base ++ idB x.fin ++ zB4 (zig x.time) ++ zB4 x.eps.length
def mfBody (x : Mf) : List UInt8 := hdB x ++ epB x.eps ++ zB4 x.obs.length ++ obB x.obs
def mfB (x : Mf) : List UInt8 := zBt (mfBody x)
theorem zCm (n : Nat) : (zB4 n).length ≤ 10 := vputF_len 10 n
theorem zF9 (n : Int) : (idB n).length ≤ 10 := zCm _
theorem hdB_len (x : Mf) : (hdB x).length ≤ 50 := by
  have h1 := zF9 x.id; have h2 := zF9 x.base; have h3 := zF9 x.fin; have h4 := zCm (zig x.time); have h5 := zCm x.eps.length
  simp only [hdB, List.length_append]; omega
theorem prB_len (q : Pr) : (prB q).length ≤ 20 := by
  have h1 := zF9 q.1; have h2 := zF9 q.2
  simp only [prB, List.length_append]; omega
theorem epB_len : ∀ l : List Pr, (epB l).length ≤ 20 * l.length
  | [] => by simp [epB]
  | q :: l => by
    have h1 := epB_len l; have h2 := prB_len q
    simp only [epB, List.flatMap_cons, List.length_append, List.length_cons] at h1 ⊢
    omega
theorem oB_len {o : Ob} (h : zD7 o = 0) : (oB o).length ≤ 94 := by
  have h1 := zCm o.1.size; have h2 := zF9 o.2.1; have h3 := zCm o.2.2
  have h4 : o.1.data.toList.length ≤ 64 := by
    unfold zD7 at h
    split at h
    · cases h
    · rename_i hv
      have hv : zCa o.1.data.toList = true := by simpa using hv
      simp only [zCa, Bool.and_eq_true, decide_eq_true_eq] at hv
      omega
  simp only [oB, List.length_append]; omega
theorem obB_len : ∀ l : List Ob, (∀ o ∈ l, zD7 o = 0) → (obB l).length ≤ 94 * l.length
  | [], _ => by simp [obB]
  | o :: l, h => by
    have h1 := obB_len l fun x hx => h x (List.mem_cons_of_mem _ hx); have h2 := oB_len (h o (List.mem_cons_self ..))
    simp only [obB, List.flatMap_cons, List.length_append, List.length_cons] at h1 ⊢
    omega
theorem epB_next {l : List Pr} {k : Nat} {q : Pr} (h : l[k]? = some q) : epB (l.take (k + 1)) = epB (l.take k) ++ idB q.1 ++ idB q.2 := by
  simp [epB, List.take_add_one, h, prB]
theorem obB_next {l : List Ob} {k : Nat} {o : Ob} (h : l[k]? = some o) : obB (l.take (k + 1)) = obB (l.take k) ++ zB4 o.1.size ++ o.1.data.toList ++ idB o.2.1 ++ zB4 o.2.2 := by
  simp [obB, List.take_add_one, h, oB]
/-- What a manifest that may be is. -/
structure Fine (x : Mf) : Prop where
  id : 0 ≤ x.id ∧ x.id ≤ 2147483647
  base : 0 ≤ x.base ∧ x.base ≤ 1099511627776
  fin : 0 ≤ x.fin ∧ x.fin ≤ 1099511627776
  time : -1099511627776 ≤ x.time ∧ x.time ≤ 1099511627776
  eps : x.eps.length ≤ 256
  pr : ∀ q ∈ x.eps, (0 ≤ q.1 ∧ q.1 ≤ 1073741824) ∧ 0 ≤ q.2 ∧ q.2 ≤ 1099511627776
  obs : 1 ≤ x.obs.length ∧ x.obs.length ≤ 8
  ob : ∀ o ∈ x.obs, zD7 o = 0
theorem mf_fine {x : Mf} (h : (mfF x).1 = 0) : Fine x := by
  have h8 := mf_len h; have hid := mf_id h
  unfold mfF at h
  split at h
  · cases h
  · rename_i h1
    simp only [zBh, zE9, Bool.or_eq_true, Bool.not_eq_true', Bool.and_eq_false_iff, decide_eq_true_eq, decide_eq_false_iff_not, not_or] at h1
    split at h
    · rename_i h2; exact absurd h h2
    · rename_i h2
      split at h
      · cases h
      · have hp : ∀ q ∈ x.eps, prOk q = true := by
          have h2 : epF x.eps = 0 := by simpa using h2
          unfold epF at h2
          split at h2
          · cases h2
          · split at h2
            · cases h2
            · rename_i h3; simpa [List.all_eq_true] using h3
        have hob : (1 ≤ x.obs.length ∧ x.obs.length ≤ 8) ∧ ∀ o ∈ x.obs, zD7 o = 0 := by
          unfold obF at h
          split at h
          · cases h
          · rename_i h4
            refine ⟨by omega, ?_⟩
            split at h
            · rename_i i hi
              rw [List.findIdx?_eq_some_iff_getElem] at hi; obtain ⟨hl, hb, _⟩ := hi
              have hg : x.obs.getD i (ByteArray.empty, 0, 0) = x.obs[i] := by rw [List.getD_eq_getElem?_getD, List.getElem?_eq_getElem hl]; rfl
              simp only [hg] at h
              simp [h] at hb
            · rename_i hn
              rw [List.findIdx?_eq_none_iff] at hn; intro o ho
              simpa using hn o ho
        refine ⟨hid, by omega, by omega, by omega, h8.1, fun q hq => ?_, hob.1, hob.2⟩; have := hp q hq; simp only [prOk, rightE, zE9, Bool.and_eq_true, decide_eq_true_eq] at this
        omega
theorem zEx {x : Mf} (h : Fine x) : (mfBody x).length ≤ 6000 := by
  have h1 := hdB_len x; have h2 := epB_len x.eps; have h3 := zCm x.obs.length; have h4 := obB_len x.obs h.ob; have h5 := h.eps; have h6 := h.obs
  simp only [mfBody, List.length_append]; omega
theorem wrapN {n : Int} (h : 0 ≤ n ∧ n ≤ 1099511627776) : IntKind.u64.wrap n = ((n.toNat : Nat) : Int) := by rw [zB]; omega
theorem ob_fine {o : Ob} (h : zD7 o = 0) : 0 ≤ o.2.1 ∧ o.2.1 ≤ 1073741824 := by
  unfold zD7 at h
  split at h
  · cases h
  · split at h
    · cases h
    · omega
theorem src_str {P : Program} {tx : TypeId} (hk : P.underlying tx = some .string) (s : ByteArray) (w : World) : Src P 1 tx (.string s) (zAm s.data.toList).length (zAm s.data.toList) w := by
  have h := Src.ofString (P := P) w hk s; have e : byteCells s = zAm s.data.toList := rfl
  have e2 : s.size = (zAm s.data.toList).length := by rw [zAu]; exact Array.length_toList.symm
  rw [e, e2] at h; exact h
set_option maxHeartbeats 2000000 in
theorem maniB_sl (hE : ErrV ad g) (hs : Mem g w L) {m : Mf} {e o : SA} (hm : MfR g L m e o) (h0 : mfF m = (0, none)) (hu : ∀ q ∈ m.obs, q.2.2 < 4294967296) : Calls Tryz.prog 80 #[.agg (mfL m e o).toArray] w (Ret fun v w' => ∃ a c, v = .tuple #[.slice a (mfB m).length c, .nilIface] ∧ Mem g w' (own (.slice a (mfB m).length c) (zAm (mfB m)) :: L)) := by
  have hF := mf_fine (x := m) (by rw [h0]); have hbl := zEx hF; have hhd := hdB_len m; have h8 := hF.obs; have h256 := hF.eps; have hid := hF.id; have hba := hF.base; have hfi := hF.fin; have hti := hF.time
  have i1 := zF9 m.id; have i2 := zF9 m.base; have i3 := zF9 m.fin; have i4 := zCm (zig m.time); have i5 := zCm m.eps.length; have i6 := zCm m.obs.length
  refine zAo Tryz.func80 rfl rfl ?_
  skip
  refine zA6 (zA1 ?_); refine zCj (v := .agg _) hs rfl rfl ?_; clear hs; intro b1 w hs
  try simp only [List.set_cons_succ, List.set_cons_zero] at hs
  refine zA rfl (zA2 (v := .slice _ _ _) rfl) ?_; refine zA rfl (zA2 (v := .nilIface) rfl) ?_; refine zA4 ?_; refine zA6 ?_; refine zA6 (zA1 ?_); refine zA rfl (zBc hs 0 rfl zBx zDf rfl) ?_; refine zAb rfl en40 (validM_sl hE hs hm.cons (by omega)) ?_; clear hs; rintro _ w ⟨eb, rfl, hs⟩; rw [h0, flC_bare] at hs; rw [h0, flV_bare]; replace hs := hs.tail; refine zA rfl (zA2 (v := zAq ad _) rfl) ?_; refine zA4 (zA6 (zA1 ?_)); refine zA rfl (zA0 (v := zAq ad _) rfl) ?_; refine zA rfl (zAt (ad := ad) rfl) ?_; refine zA4 ?_; refine zAx rfl (rfl) ?_; refine zAf ?_; refine zA6 (zA1 ?_); refine zA rfl (zA3 (o' := 0) zBx rfl sz3 rfl rfl rfl) ?_; refine zA rfl (zA8 uz3 rfl rfl (hs.cellAt 0 rfl rfl)) ?_
  refine zA rfl (zAh uz3 zBj rfl (c := ((m.id.toNat : Nat) : Int)) (wrapN (by omega))) ?_; refine zAb rfl en52 (zE5 hs (lb := []) (n := m.id.toNat) Rd.nil rfl (by decide) (by omega)) ?_; clear hs; rintro _ w ⟨a18, c18, rfl, hs⟩; rw [List.nil_append] at hs ⊢; refine zA rfl (zA2 (v := .slice _ _ _) rfl) ?_; refine zA4 (zA6 (zA1 ?_)); refine zA rfl (zA0 (v := .slice _ _ _) rfl) ?_; refine zA rfl (zA3 (o' := 1) zBx rfl sz2 rfl rfl rfl) ?_; refine zA rfl (zA8 uz2 rfl rfl (hs.cellAt 1 rfl rfl)) ?_; refine zA rfl (zAh uz2 zBj rfl (c := ((m.base.toNat : Nat) : Int)) (wrapN hba)) ?_; refine zAb rfl en52 (zE5 hs (lb := idB m.id) (n := m.base.toNat) (hs.rdOwn 0 rfl) rfl (by omega) (by omega)) ?_
  clear hs; rintro _ w ⟨a23, c23, rfl, hs⟩; replace hs := hs.drop 1; refine zA rfl (zA2 (v := .slice _ _ _) rfl) ?_; refine zA4 (zA6 (zA1 ?_)); refine zA rfl (zA0 (v := .slice _ _ _) rfl) ?_; refine zA rfl (zA3 (o' := 2) zBx rfl sz2 rfl rfl rfl) ?_; refine zA rfl (zA8 uz2 rfl rfl (hs.cellAt 1 rfl rfl)) ?_; refine zA rfl (zAh uz2 zBj rfl (c := ((m.fin.toNat : Nat) : Int)) (wrapN hfi)) ?_; refine zAb rfl en52 (zE5 hs (lb := idB m.id ++ idB m.base) (n := m.fin.toNat) (hs.rdOwn 0 rfl) rfl (by simp only [List.length_append]; omega) (by omega)) ?_; clear hs; rintro _ w ⟨a28, c28, rfl, hs⟩; replace hs := hs.drop 1; refine zA rfl (zA2 (v := .slice _ _ _) rfl) ?_; refine zA4 (zA6 (zA1 ?_))
  refine zA rfl (zA0 (v := .slice _ _ _) rfl) ?_; refine zA rfl (zA3 (o' := 3) zBx rfl sz2 rfl rfl rfl) ?_; refine zA rfl (zA8 uz2 rfl rfl (hs.cellAt 1 rfl rfl)) ?_; refine zAb rfl en121 (putint_sl hs (lb := idB m.id ++ idB m.base ++ idB m.fin) (z := zig m.time) (hs.rdOwn 0 rfl) rfl (by simp only [List.length_append]; omega) rfl rfl rfl rfl (zig_bits ⟨by omega, by omega⟩) (zig_lt ⟨by omega, by omega⟩)) ?_; clear hs; rintro _ w ⟨a32, c32, rfl, hs⟩; replace hs := hs.drop 1; refine zA rfl (zA2 (v := .slice _ _ _) rfl) ?_; refine zA4 (zA6 (zA1 ?_)); refine zA rfl (zA0 (v := .slice _ _ _) rfl) ?_; refine zA rfl (zA3 (o' := 4) zBx rfl sz36 rfl rfl rfl) ?_
  refine zA rfl (zA8 zCx rfl rfl (hs.cellAt 1 rfl rfl)) ?_; refine zA rfl (zB2 zCx rfl) ?_; refine zA rfl (zAh uz3 zBj rfl (c := ((m.eps.length : Nat) : Int)) (wrapN (by omega))) ?_; refine zAb rfl en52 (zE5 hs (lb := idB m.id ++ idB m.base ++ idB m.fin ++ zB4 (zig m.time)) (n := m.eps.length) (hs.rdOwn 0 rfl) rfl (by simp only [List.length_append]; omega) (by omega)) ?_; clear hs; rintro _ w ⟨a38, c38, rfl, hs⟩; replace hs := hs.drop 1
  have h9 : idB m.id ++ idB m.base ++ idB m.fin ++ zB4 (zig m.time) ++ zB4 m.eps.length = hdB m ++ epB (m.eps.take 0) := by simp [epB, hdB]
  rw [h9] at hs ⊢; refine zA rfl (zA2 (v := .slice _ _ _) rfl) ?_; refine zA4 ?_; refine zA6 ?_; refine zA6 (zA1 ?_); refine zA rfl (zA3 (o' := 4) zBx rfl sz36 rfl rfl rfl) ?_; refine zA rfl (zA8 zCx rfl rfl (hs.cellAt 1 rfl rfl)) ?_; refine zA rfl (zB2 zCx rfl) ?_; refine zA rfl (zA0 (v := .int .i64 _) rfl) ?_; refine zA4 ?_; refine zAw ?_
  refine zBw (X := Nat × SA) [5, 7, 42, 43, 44, 45, 46, 47, 48, 49, 50, 51, 52, 53, 54, 55] (fun q => [(5, .slice q.2.1 (hdB m ++ epB (m.eps.take q.1)).length q.2.2), (42, .int .i64 (q.1 : Nat))]) (fun q w => q.1 ≤ m.eps.length ∧ Mem g w (own (.slice q.2.1 (hdB m ++ epB (m.eps.take q.1)).length q.2.2) (zAm (hdB m ++ epB (m.eps.take q.1))) :: cells b1 (mfL m e o) 39 :: L)) (fun q => m.eps.length - q.1) ((0, (a38, c38))) ?_ ?_ ?_
  · exact ⟨rfl, rfl, trivial⟩
  · exact ⟨Nat.zero_le _, hs⟩
  clear hs; rintro x ξ w hI; obtain ⟨k, s⟩ := x; obtain ⟨hk, hs⟩ := hI; simp only at hk hs
  show cw _ _ _ _ _ _ (updL (mix _ ξ _) [(5, .slice s.1 (hdB m ++ epB (m.eps.take k)).length s.2), (42, .int .i64 (k : Nat))]) w
  refine zA6 (zA1 ?_); refine zA rfl (zB7 rfl rfl) ?_; refine zA4 ?_; refine zA6 ?_; refine zB8 rfl ?_ ?_
  ·
   intro h43; have g43 := of_decide_eq_true h43; obtain ⟨y, hy⟩ : ∃ y, m.eps[k]? = some y := ⟨_, List.getElem?_eq_getElem (by omega)⟩; obtain ⟨b0, o0, hb0⟩ := hm.eps.cons.cons.at hs (by rw [zEb]; omega); have hpy := hF.pr y (List.mem_of_getElem? hy); have hnx := epB_next hy; have hel := epB_len (m.eps.take k)
   have hkl : (m.eps.take k).length = k := by rw [List.length_take]; omega
   have j1 := zF9 y.1; have j2 := zF9 y.2; obtain ⟨ea, ec⟩ := e; simp only at hb0; subst hb0; refine zAf ?_; refine zA6 ?_; refine zAw ?_; refine zA6 (zA1 ?_); refine zA rfl (zB0 zCx zEo rfl rfl rfl (by omega) rfl) ?_; refine zA rfl (zD4 (cs := prL y) zDk zEo rfl (fun j v hj => hm.eps.cons.cons.cell hs (zE4 hy) hj)) ?_; refine zBd hs rfl ze141 ?_; clear hs; intro b7 w hs
   try simp only [List.set_cons_succ, List.set_cons_zero] at hs
   refine zAn hs 0 rfl rfl rfl zEo rfl rfl ?_; clear hs; intro w hs
   try simp only [List.set_cons_succ, List.set_cons_zero] at hs
   refine zA4 ?_; refine zAy zBv (hs.drop 1) ?_; intro w tr hK; replace hs := tr _ hs; clear tr; refine zA5 0 rfl rfl (fun w hs => zA0 (v := .slice _ _ _) rfl) hK ?_; refine zA5 1 rfl rfl (fun w hs => zA3 (o' := 0) zDk rfl sz3 rfl rfl rfl) hK ?_; refine zA5 2 rfl rfl (fun w hs => zA8 uz3 rfl rfl (hs.cellAt 0 rfl rfl)) hK ?_; refine zA5 3 rfl rfl (fun w hs => zAh uz3 zBj rfl (c := ((y.1.toNat : Nat) : Int)) (wrapN (by omega))) hK ?_; refine zA5 5 rfl rfl (fun w hs => zA3 (o' := 1) zDk rfl sz2 rfl rfl rfl) hK ?_; refine zA5 6 rfl rfl (fun w hs => zA8 uz2 rfl rfl (hs.cellAt 0 rfl rfl)) hK ?_
   refine zA5 7 rfl rfl (fun w hs => zAh uz2 zBj rfl (c := ((y.2.toNat : Nat) : Int)) (wrapN (by omega))) hK ?_; refine zA9 [4] ?_; refine ⟨⟨_, rfl, ?_⟩, trivial⟩; refine zAb rfl en52 (zE5 hs (lb := hdB m ++ epB (m.eps.take k)) (n := y.1.toNat) (hs.rdOwn 1 rfl) rfl (by simp only [List.length_append]; omega) (by omega)) ?_; clear hs; rintro _ w ⟨a50, c50, rfl, hs⟩; clear hK; have hK := (hs.drop 2).tail; refine zA4 ⟨hK, ?_⟩; refine zA9 [8] ?_; refine ⟨⟨_, rfl, ?_⟩, trivial⟩; refine zAb rfl en52 (zE5 hs (lb := hdB m ++ epB (m.eps.take k) ++ idB y.1) (n := y.2.toNat) (hs.rdOwn 0 rfl) rfl (by simp only [List.length_append]; omega) (by omega)) ?_; clear hs; rintro _ w ⟨a54, c54, rfl, hs⟩
   clear hK; have hK := ((hs.drop 3).drop 1).tail; refine zA4 ⟨hK, ?_⟩; refine zA5 9 rfl rfl (fun w hs => zA2 (v := .slice _ _ _) rfl) hK ?_; refine zAp (by kernel_rfl) ?_; clear hK; refine zA1 ?_; refine zA rfl (zAs rfl rfl rfl (inI (by omega) (by omega))) ?_; refine zA rfl (zA0 (v := .int .i64 _) rfl) ?_; refine zA4 ?_
   have e9 : hdB m ++ epB (m.eps.take k) ++ idB y.1 ++ zB4 y.2.toNat = hdB m ++ epB (m.eps.take (k + 1)) := by rw [hnx]; simp [idB]
   rw [e9] at hs; exact ⟨(k + 1, (a54, c54)), by simp only; omega, ⟨by simp only; omega, hs.arr [0, 4] 5 (by decide)⟩, ⟨show Value.slice a54 (hdB m ++ epB (m.eps.take k) ++ idB y.1 ++ zB4 y.2.toNat).length c54 = Value.slice a54 (hdB m ++ epB (m.eps.take (k + 1))).length c54 from by rw [e9], rfl, trivial⟩, by repeat (first | exact Out.mix _ _ _ | refine Out.updo rfl ?_ | refine Out.upd rfl ?_ | refine Out.mixIn rfl ?_)⟩
  ·
   intro h43; have g43 := of_decide_eq_false h43
   have hke : k = m.eps.length := by omega
   subst hke; rw [List.take_length] at hs ⊢; have hel := epB_len m.eps; refine zBg rfl ?_; refine zA6 (zA1 ?_); refine zA rfl (zA0 (v := .slice _ _ _) rfl) ?_; refine zA rfl (zA3 (o' := 5) zBx rfl zCt rfl rfl rfl) ?_; refine zA rfl (zA8 zBp rfl rfl (hs.cellAt 1 rfl rfl)) ?_; refine zA rfl (zB2 zBp rfl) ?_; refine zA rfl (zAh uz3 zBj rfl (c := ((m.obs.length : Nat) : Int)) (wrapN (by omega))) ?_; refine zAb rfl en52 (zE5 hs (lb := hdB m ++ epB m.eps) (n := m.obs.length) (hs.rdOwn 0 rfl) rfl (by simp only [List.length_append]; omega) (by omega)) ?_; clear hs; rintro _ w ⟨a61, c61, rfl, hs⟩; replace hs := hs.drop 1; obtain ⟨B, hB⟩ : ∃ B, B = hdB m ++ epB m.eps ++ zB4 m.obs.length := ⟨_, rfl⟩
   rw [← hB] at hs ⊢
   have hBl : B.length ≤ 5300 := by rw [hB]; simp only [List.length_append]; omega
   have h10 : B = B ++ obB (m.obs.take 0) := (List.append_nil B).symm; rw [h10] at hs ⊢; refine zA rfl (zA2 (v := .slice _ _ _) rfl) ?_; refine zA4 ?_; refine zA6 ?_; refine zA6 (zA1 ?_); refine zA rfl (zA3 (o' := 5) zBx rfl zCt rfl rfl rfl) ?_; refine zA rfl (zA8 zBp rfl rfl (hs.cellAt 1 rfl rfl)) ?_; refine zA rfl (zB2 zBp rfl) ?_; refine zA rfl (zA0 (v := .int .i64 _) rfl) ?_; refine zA4 ?_; refine zAw ?_
   refine zBw (X := Nat × SA) [5, 9, 65, 66, 67, 68, 69, 70, 71, 72, 73, 74, 75, 76, 77, 78, 79, 80, 81, 82, 83, 84, 85, 86, 87, 88] (fun q => [(5, .slice q.2.1 (B ++ obB (m.obs.take q.1)).length q.2.2), (65, .int .i64 (q.1 : Nat))]) (fun q w => q.1 ≤ m.obs.length ∧ Mem g w (own (.slice q.2.1 (B ++ obB (m.obs.take q.1)).length q.2.2) (zAm (B ++ obB (m.obs.take q.1))) :: cells b1 (mfL m e o) 39 :: L)) (fun q => m.obs.length - q.1) ((0, (a61, c61))) ?_ ?_ ?_
   · exact ⟨rfl, rfl, trivial⟩
   · exact ⟨Nat.zero_le _, hs⟩
   clear hs; rintro x ξ w hI; obtain ⟨k, s⟩ := x; obtain ⟨hk, hs⟩ := hI; simp only at hk hs
   show cw _ _ _ _ _ _ (updL (mix _ ξ _) [(5, .slice s.1 (B ++ obB (m.obs.take k)).length s.2), (65, .int .i64 (k : Nat))]) w
   refine zA6 (zA1 ?_); refine zA rfl (zB7 rfl rfl) ?_; refine zA4 ?_; refine zA6 ?_; refine zB8 rfl ?_ ?_
   ·
    intro h66; have g66 := of_decide_eq_true h66; obtain ⟨y, hy⟩ : ∃ y, m.obs[k]? = some y := ⟨_, List.getElem?_eq_getElem (by omega)⟩; obtain ⟨b0, o0, hb0⟩ := hm.obs.cons.cons.at hs (by rw [zF4]; omega); have hpy := hF.ob y (List.mem_of_getElem? hy); have hpo := ob_fine hpy; have huy := hu y (List.mem_of_getElem? hy); have hnx := obB_next hy; have hel := obB_len (m.obs.take k) (fun q hq => hF.ob q (List.mem_of_mem_take hq))
    have hkl : (m.obs.take k).length = k := by rw [List.length_take]; omega
    have hol := oB_len hpy; simp only [oB, List.length_append] at hol; have hys : y.1.size = y.1.data.toList.length := Array.length_toList.symm; obtain ⟨oa, oc⟩ := o; simp only at hb0; subst hb0; refine zAf ?_; refine zA6 ?_; refine zAw ?_; refine zA6 (zA1 ?_); refine zA rfl (zB0 zBp zFn rfl rfl rfl (by omega) rfl) ?_; refine zA rfl (zD4 (cs := obL y) zCl zFn rfl (fun j v hj => hm.obs.cons.cons.cell hs (obL_at hy) hj)) ?_; refine zBd hs rfl zDi ?_; clear hs; intro b9 w hs
    try simp only [List.set_cons_succ, List.set_cons_zero] at hs
    refine zAn hs 0 rfl rfl rfl zFn rfl rfl ?_; clear hs; intro w hs
    try simp only [List.set_cons_succ, List.set_cons_zero] at hs
    refine zA4 (zA6 (zA1 ?_)); refine zA rfl (zA0 (v := .slice _ _ _) rfl) ?_; refine zA rfl (zA3 (o' := 0) zCl rfl sz9 rfl rfl rfl) ?_; refine zA rfl (zA8 uz9 rfl rfl (hs.cellAt 0 rfl rfl)) ?_; refine zA rfl (run_lenT uz9 rfl) ?_; refine zA rfl (zAh uz3 zBj rfl (c := ((y.1.size : Nat) : Int)) (wrapN (by omega))) ?_; refine zAb rfl en52 (zE5 hs (lb := B ++ obB (m.obs.take k)) (n := y.1.size) (hs.rdOwn 1 rfl) rfl (by simp only [List.length_append]; omega) (by omega)) ?_; clear hs; rintro _ w ⟨a74, c74, rfl, hs⟩; refine zA rfl (zA2 (v := .slice _ _ _) rfl) ?_; refine zA4 (zA6 (zA1 ?_)); refine zA rfl (zA0 (v := .slice _ _ _) rfl) ?_; refine zA rfl (zA3 (o' := 0) zCl rfl sz9 rfl rfl rfl) ?_
    refine zA rfl (zA8 uz9 rfl rfl (hs.cellAt 1 rfl rfl)) ?_; refine zCh hs rfl 0 rfl zC0 in5 rfl rfl rfl (src_str uz9 y.1 _) (by simp only [zAu, List.length_append]; omega) (by simp only [zAu, List.length_append]; omega) ?_; clear hs; intro a78 c78 w hs; simp only [List.set_cons_succ, List.set_cons_zero] at hs; have e8 : zAm (B ++ obB (m.obs.take k) ++ zB4 y.1.size) ++ zAm y.1.data.toList = zAm (B ++ obB (m.obs.take k) ++ zB4 y.1.size ++ y.1.data.toList) := (zCi _ _).symm
    have e7 : (zAm (B ++ obB (m.obs.take k) ++ zB4 y.1.size)).length + (zAm y.1.data.toList).length = (B ++ obB (m.obs.take k) ++ zB4 y.1.size ++ y.1.data.toList).length := by simp only [zAu, List.length_append]
    rw [e7] at hs ⊢; rw [e8] at hs; refine zA rfl (zA2 (v := .slice _ _ _) rfl) ?_; refine zA4 ?_; refine zAy zBv hs.tail ?_; intro w tr hK; replace hs := tr _ hs; clear tr; refine zA5 0 rfl rfl (fun w hs => zA0 (v := .slice _ _ _) rfl) hK ?_; refine zA5 1 rfl rfl (fun w hs => zA3 (o' := 1) zCl rfl sz3 rfl rfl rfl) hK ?_; refine zA5 2 rfl rfl (fun w hs => zA8 uz3 rfl rfl (hs.cellAt 0 rfl rfl)) hK ?_; refine zA5 3 rfl rfl (fun w hs => zAh uz3 zBj rfl (c := ((y.2.1.toNat : Nat) : Int)) (wrapN (by omega))) hK ?_; refine zA5 5 rfl rfl (fun w hs => zA3 (o' := 2) zCl rfl sz111 rfl rfl rfl) hK ?_; refine zA5 6 rfl rfl (fun w hs => zA8 zDg rfl rfl (hs.cellAt 0 rfl rfl)) hK ?_
    refine zA5 7 rfl rfl (fun w hs => zAh zDg zBj rfl (c := ((y.2.2 : Nat) : Int)) (by rw [zB]; omega)) hK ?_; refine zA9 [4] ?_; refine ⟨⟨_, rfl, ?_⟩, trivial⟩; refine zAb rfl en52 (zE5 hs (lb := B ++ obB (m.obs.take k) ++ zB4 y.1.size ++ y.1.data.toList) (n := y.2.1.toNat) (hs.rdOwn 0 rfl) rfl (by simp only [List.length_append]; omega) (by omega)) ?_; clear hs; rintro _ w ⟨a83, c83, rfl, hs⟩; clear hK; have hK := (hs.drop 1).tail; refine zA4 ⟨hK, ?_⟩; refine zA9 [8] ?_; refine ⟨⟨_, rfl, ?_⟩, trivial⟩
    refine zAb rfl en52 (zE5 hs (lb := B ++ obB (m.obs.take k) ++ zB4 y.1.size ++ y.1.data.toList ++ idB y.2.1) (n := y.2.2) (hs.rdOwn 0 rfl) rfl (by simp only [List.length_append]; omega) (by omega)) ?_; clear hs; rintro _ w ⟨a87, c87, rfl, hs⟩; clear hK; have hK := ((hs.drop 2).drop 1).tail; refine zA4 ⟨hK, ?_⟩; refine zA5 9 rfl rfl (fun w hs => zA2 (v := .slice _ _ _) rfl) hK ?_; refine zAp (by kernel_rfl) ?_; clear hK; refine zA1 ?_; refine zA rfl (zAs rfl rfl rfl (inI (by omega) (by omega))) ?_; refine zA rfl (zA0 (v := .int .i64 _) rfl) ?_; refine zA4 ?_
    have e9 : B ++ obB (m.obs.take k) ++ zB4 y.1.size ++ y.1.data.toList ++ idB y.2.1 ++ zB4 y.2.2 = B ++ obB (m.obs.take (k + 1)) := by rw [hnx]; simp only [List.append_assoc]
    rw [e9] at hs; exact ⟨(k + 1, (a87, c87)), by simp only; omega, ⟨by simp only; omega, hs.arr [0, 5] 6 (by decide)⟩, ⟨show Value.slice a87 (B ++ obB (m.obs.take k) ++ zB4 y.1.size ++ y.1.data.toList ++ idB y.2.1 ++ zB4 y.2.2).length c87 = Value.slice a87 (B ++ obB (m.obs.take (k + 1))).length c87 from by rw [e9], rfl, trivial⟩, by repeat (first | exact Out.mix _ _ _ | refine Out.updo rfl ?_ | refine Out.upd rfl ?_ | refine Out.mixIn rfl ?_)⟩
   ·
    intro h66; have g66 := of_decide_eq_false h66
    have hke : k = m.obs.length := by omega
    subst hke; rw [List.take_length] at hs ⊢
    have e9 : B ++ obB m.obs = mfBody m := by rw [hB]; rfl
    rw [e9] at hs ⊢; refine zBg rfl ?_; refine zA6 (zA1 ?_); refine zA rfl (zA0 (v := .slice _ _ _) rfl) ?_; refine zAb rfl en82 (seal_sl hs (l := mfBody m) (hs.rdOwn 0 rfl) rfl (by omega)) ?_; clear hs; rintro _ w ⟨a90, c90, rfl, hs⟩; refine zA rfl (zA2 (v := .slice _ _ _) rfl) ?_; refine zA rfl (zA2 (v := .nilIface) rfl) ?_; refine zA4 ?_; refine zAg ?_; refine res2 (v := .slice _ _ _) (v2 := .nilIface) rfl rfl rfl ?_; exact ⟨_, rfl, a90, c90, rfl, hs.arr [0] 3 (by decide)⟩
end Go.Proofs.YtdkgdjnbpjjfmaaGreatDoor
namespace Go.Proofs.YtdkgdjnbpjjfmaaGreatDoor
set_option linter.all false
open Go.RowKit
attribute [local irreducible] zAq eV
variable {g w : World} {L M : List HP} {ad : Nat → Addr} {rb at_ : Nat} {b rest : List UInt8}

/-! ### numbers of so many bytes -/
def leR : Nat → Nat → List UInt8
  | 0, _ => []
  | k + 1, n => UInt8.ofNat n :: leR k (n / 256)
def valL : List UInt8 → Nat
  | [] => 0
  | c :: l => c.toNat + 256 * valL l
theorem zCv : ∀ k n, (leR k n).length = k
  | 0, _ => rfl
  | k + 1, n => by simp [leR, zCv k]
theorem valL_le : ∀ (k : Nat) {n : Nat}, n < 256 ^ k → valL (leR k n) = n
  | 0, n, h => by simp at h; simp [leR, valL, h]
  | k + 1, n, h => by
    have h1 : n / 256 < 256 ^ k := by rw [Nat.pow_succ] at h; exact Nat.div_lt_of_lt_mul (by rw [Nat.mul_comm]; exact h)
    have h2 := UInt8.toNat_ofNat' (n := n); simp only [leR, valL, valL_le k h1, h2]
    omega
theorem valL_snoc (c : UInt8) : ∀ l : List UInt8, valL (l ++ [c]) = valL l + c.toNat * 2 ^ (8 * l.length)
  | [] => by simp [valL]
  | a :: l => by
    have h1 : 2 ^ (8 * (l.length + 1)) = 256 * 2 ^ (8 * l.length) := by rw [Nat.mul_add, Nat.pow_add]; omega
    simp only [List.cons_append, valL, valL_snoc c l, List.length_cons]; rw [h1, Nat.mul_left_comm c.toNat 256]; generalize c.toNat * 2 ^ (8 * l.length) = z
    omega
theorem valL_lt : ∀ l : List UInt8, valL l < 2 ^ (8 * l.length)
  | [] => by simp [valL]
  | a :: l => by
    have h1 : 2 ^ (8 * (l.length + 1)) = 256 * 2 ^ (8 * l.length) := by rw [Nat.mul_add, Nat.pow_add]; omega
    have h2 := valL_lt l; have h3 := a.toNat_lt; simp only [valL, List.length_cons, h1]
    omega
theorem leR_snoc : ∀ (k n : Nat), leR (k + 1) n = leR k n ++ [UInt8.ofNat (n / 2 ^ (8 * k))]
  | 0, n => by simp [leR]
  | k + 1, n => by
    have h1 := leR_snoc k (n / 256)
    have h2 : n / 256 / 2 ^ (8 * k) = n / 2 ^ (8 * (k + 1)) := by rw [Nat.div_div_eq_div_mul, Nat.mul_add, Nat.pow_add, Nat.mul_comm]
    rw [h2] at h1
    show UInt8.ofNat n :: leR (k + 1) (n / 256) = _
    rw [h1]
    rfl

theorem little_sl (hs : Mem g w L) {n k : Nat} (hk : k ≤ 8) (hn : n < 18446744073709551616) : Calls Tryz.prog 81 #[.slice none 0 0, .int .u64 n, .int .i64 k] w (Ret fun v w' => ∃ s : SA, v = .slice s.1 (leR k n).length s.2 ∧ Mem g w' (own (.slice s.1 (leR k n).length s.2) (zAm (leR k n)) :: L)) := by
  refine zAo Tryz.func81 rfl rfl ?_
  skip
  refine zA6 (zA1 ?_); refine zA rfl (zA2 (v := .slice _ _ _) rfl) ?_; refine zA4 ?_; refine zA6 ?_; refine zA6 ?_; replace hs := hs.addE (zDo _); refine zA1 ?_; refine zA rfl (zA0 (v := .int .i64 _) rfl) ?_; refine zA rfl (zA0 (v := .int .i64 _) rfl) ?_; refine zA4 ?_; refine zAw ?_; refine zBw (X := Nat × SA) [0, 7, 9, 10, 11, 12, 13, 14, 15, 16, 17, 18, 19, 20] (fun q => [(0, .slice q.2.1 (leR q.1 n).length q.2.2), (9, .int .i64 (q.1 : Nat))]) (fun q w => q.1 ≤ k ∧ Mem g w (own (.slice q.2.1 (leR q.1 n).length q.2.2) (zAm (leR q.1 n)) :: L)) (fun q => k - q.1) ((0, (none, 0))) ?_ ?_ ?_
  · exact ⟨rfl, rfl, trivial⟩
  · exact ⟨Nat.zero_le _, hs⟩
  clear hs; rintro x ξ w hI; obtain ⟨i, s⟩ := x; obtain ⟨hi, hs⟩ := hI; simp only at hi hs
  show cw _ _ _ _ _ _ (updL (mix _ ξ _) [(0, .slice s.1 (leR i n).length s.2), (9, .int .i64 (i : Nat))]) w
  refine zA6 (zA1 ?_); refine zA rfl (zB7 rfl rfl) ?_; refine zA4 ?_; refine zA6 ?_; refine zB8 rfl ?_ ?_
  ·
   intro h10; have g10 := of_decide_eq_true h10; have e1 := leR_snoc i n; have hll := zCv i n; refine zAf ?_; refine zA6 ?_; refine zAw ?_; refine zA6 (zA1 ?_); refine zA rfl (zA0 (v := .int .i64 _) rfl) ?_; refine zA rfl (zA2 (v := .int .i64 _) rfl) ?_; refine zA4 ?_; refine zA1 ?_; refine zA rfl (zA0 (v := .slice _ _ _) rfl) ?_; refine zA rfl (zA0 (v := .int .u64 _) rfl) ?_; refine zA rfl (zA0 (v := .int .i64 _) rfl) ?_; refine zA rfl (zE3 rfl rfl (c := ((8 * i : Nat) : Int)) (by omega) (inI (by omega) (by omega))) ?_; refine zA rfl (run_shr rfl rfl (n := 8 * i) (c := ((n / 2 ^ (8 * i) : Nat) : Int)) rfl (by show 8 * i ≤ 64; omega) (by push_cast; rfl)) ?_
   refine zA rfl (zAh zBj uz5 rfl (c := (((UInt8.ofNat (n / 2 ^ (8 * i))).toNat : Nat) : Int)) (wrapB _)) ?_; refine zC7 hs rfl ((zAm [UInt8.ofNat (n / 2 ^ (8 * i))])) zC0 zs5 rfl (zDs (zBy _)) rfl rfl rfl ?_; clear hs; intro b18 w hs
   try simp only [List.set_cons_succ, List.set_cons_zero] at hs
   refine zCh hs rfl 1 rfl zC0 in5 rfl rfl rfl (zC5 (P := Tryz.prog) zC0 ((Rd.cells (n := 1) (cs := zAm [UInt8.ofNat (n / 2 ^ (8 * i))]) 0 rfl rfl).seq hs) (zBy _)) (by simp only [zAu, List.length_cons, List.length_nil]; omega) (by simp only [zAu, List.length_cons, List.length_nil]; omega) ?_; clear hs; intro a19 c19 w hs; simp only [List.set_cons_succ, List.set_cons_zero] at hs; refine zA rfl (zA2 (v := .slice _ _ _) rfl) ?_; refine zA4 ?_; refine zA1 ?_; refine zA rfl (zAs rfl rfl rfl (inI (by omega) (by omega))) ?_; refine zA rfl (zA0 (v := .int .i64 _) rfl) ?_; refine zA4 ?_
   have e2 : (zAm (leR i n)).length + (zAm [UInt8.ofNat (n / 2 ^ (8 * i))]).length = (leR (i + 1) n).length := by rw [e1]; simp [zAu]
   have e3 : zAm (leR i n) ++ zAm [UInt8.ofNat (n / 2 ^ (8 * i))] = zAm (leR (i + 1) n) := by rw [e1, zCi]
   rw [e2, e3] at hs; exact ⟨(i + 1, (a19, c19)), by simp only; omega, ⟨by simp only; omega, hs.tail⟩, ⟨by rw [← e2]; rfl, rfl, trivial⟩, by repeat (first | exact Out.mix _ _ _ | refine Out.updo rfl ?_ | refine Out.upd rfl ?_ | refine Out.mixIn rfl ?_)⟩
  ·
   intro h10; have g10 := of_decide_eq_false h10; refine zBg rfl ?_; refine zA6 (zA1 ?_); refine zA rfl (zA0 (v := .slice _ _ _) rfl) ?_; refine zA rfl (zA2 (v := .slice _ _ _) rfl) ?_; refine zA4 ?_; refine zAg ?_; refine zBl (v := .slice _ _ _) rfl rfl ?_
   obtain rfl : i = k := by omega
   exact ⟨_, rfl, s, rfl, hs⟩
theorem shlN (u k : Nat) (hu : u < 256) (hk : k ≤ 7) : IntKind.u64.wrap ((u : Int) * 2 ^ (8 * k)) = ((u * 2 ^ (8 * k) : Nat) : Int) := by
  have h1 : 2 ^ (8 * k) ≤ 2 ^ 56 := Nat.pow_le_pow_right (by decide) (by omega); have h2 : u * 2 ^ (8 * k) ≤ 255 * 2 ^ 56 := Nat.mul_le_mul (by omega) h1; rw [zB]
  have h3 : ((u : Int) * 2 ^ (8 * k)) = ((u * 2 ^ (8 * k) : Nat) : Int) := by push_cast; rfl
  rw [h3]
  omega
theorem fixN_sl (hE : ErrW ad g) (hs : Mem g w (zFc rb ad b (at_, 0) :: L)) (hlen : b.length ≤ 1073741824) {l : List UInt8} (hb : b.drop at_ = l ++ rest) {n : Nat} (hn : n = l.length) (h8 : n ≤ 8) :
    Calls Tryz.prog 111 #[.pointer (some ⟨rb, 0, none⟩), .int .i64 n] w (Ret fun v w' => v = .int .u64 (valL l : Nat) ∧ Mem g w' (zFc rb ad b (at_ + n, 0) :: L)) := by
  subst hn; obtain ⟨hl, a, c, eb, hc, hs⟩ := hs.openR; simp only at hl; simp only [eV_0] at hs; have hq := congrArg List.length hb; rw [List.length_drop, List.length_append] at hq; refine zAo Tryz.func111 rfl rfl ?_
  skip
  refine zA6 (zA1 ?_); refine zA rfl (zA2 (v := .int .u64 _) rfl) ?_; refine zA4 ?_; refine zA6 ?_; refine zA6 (zA1 ?_); refine zA rfl (zA0 (v := .pointer (some _)) rfl) ?_; refine zA rfl (zA7 rfl) ?_; refine zA rfl (zA3 (o' := 2) zC6 rfl sz27 rfl rfl rfl) ?_; refine zA rfl (zA8 zCq rfl rfl (hs.cellAt 0 rfl rfl)) ?_; refine zA rfl (zBf rfl) ?_; refine zA rfl (zA0 (v := .bool _) rfl) ?_; refine zAi rfl rfl (rfl) ?_; refine zA rfl (zA0 (v := .int .i64 _) rfl) ?_; refine zAi rfl rfl (rfl) ?_; refine zA rfl (zB7 rfl rfl) ?_; refine zA rfl (zAk (v := .bool _) rfl (rfl) rfl) ?_; refine zA rfl (zA0 (v := .bool _) rfl) ?_; refine zAi rfl rfl (decide_eq_false (by omega)) ?_
  refine zA rfl (zA0 (v := .int .i64 _) rfl) ?_; refine zAi rfl rfl (decide_eq_false (by omega)) ?_; refine zA rfl (zBi rfl rfl) ?_; refine zA rfl (zAk (v := .bool _) rfl (decide_eq_false (by omega)) rfl) ?_; refine zA4 ?_; refine zAx rfl (decide_eq_false (by omega)) ?_; refine zAf ?_; refine zA6 ?_; refine zA6 ?_; replace hs := Mem.closeR0 hl hs; refine zA1 ?_; refine zA rfl (zA0 (v := .int .i64 _) rfl) ?_; refine zA rfl (zA0 (v := .pointer (some _)) rfl) ?_; refine zAb rfl en114 (left_sl hs hlen) ?_; clear hs; rintro _ w ⟨rfl, hl2, hs⟩; obtain ⟨hl3, a3, c3, eb3, hc3, hs⟩ := hs.openR; simp only [eV_0] at hs; refine zA rfl (zBi rfl rfl) ?_; refine zA4 ?_
  refine zAx rfl (decide_eq_false (by omega)) ?_; refine zAf ?_; refine zA6 (zA1 ?_); refine zA rfl (zA2 (v := .int .u64 _) rfl) ?_; refine zA4 ?_; refine zA6 ?_; refine zA6 ?_; refine zAy zBv hs ?_; intro w tr hK; replace hs := tr _ hs; clear tr; refine zA5 0 rfl rfl (fun w hs => zA0 (v := .pointer (some _)) rfl) hK ?_; refine zA5 1 rfl rfl (fun w hs => zA7 rfl) hK ?_; refine zA5 2 rfl rfl (fun w hs => zA3 (o' := 0) zC6 rfl sz23 rfl rfl rfl) hK ?_; refine zA5 3 rfl rfl (fun w hs => zA8 zC0 rfl rfl (hs.cellAt 0 rfl rfl)) hK ?_; refine zA5 4 rfl rfl (fun w hs => zA0 (v := .pointer (some _)) rfl) hK ?_; refine zA5 5 rfl rfl (fun w hs => zA7 rfl) hK ?_
  refine zA5 6 rfl rfl (fun w hs => zA3 (o' := 1) zC6 rfl sz3 rfl rfl rfl) hK ?_; refine zA5 7 rfl rfl (fun w hs => zA8 uz3 rfl rfl (hs.cellAt 0 rfl rfl)) hK ?_; refine zA5 8 rfl rfl (fun w hs => zA0 (v := .pointer (some _)) rfl) hK ?_; refine zA5 9 rfl rfl (fun w hs => zA7 rfl) hK ?_; refine zA5 10 rfl rfl (fun w hs => zA3 (o' := 1) zC6 rfl sz3 rfl rfl rfl) hK ?_; refine zA5 11 rfl rfl (fun w hs => zA8 uz3 rfl rfl (hs.cellAt 0 rfl rfl)) hK ?_; refine zA5 12 rfl rfl (fun w hs => zA0 (v := .int .i64 _) rfl) hK ?_; refine zA5 13 rfl rfl (fun w hs => zAs rfl rfl (c := ((at_ + l.length : Nat) : Int)) (by omega) (inI (by omega) (by omega))) hK ?_
  refine zA5 14 rfl rfl (fun w hs => zF1 zC0 sz5 rfl rfl rfl (lo := at_) (hi := at_ + l.length) rfl rfl (by omega) (by omega)) hK ?_; refine zA5 15 rfl rfl (fun w hs => zB2 zC0 rfl) hK ?_; refine zA5 16 rfl rfl (fun w hs => zA0 (v := .int .i64 _) rfl) hK ?_; refine zAp (by kernel_rfl) ?_; clear hK; obtain ⟨sa, sc, hsub⟩ : ∃ sa sc, subS a3 c3 at_ (at_ + l.length) = .slice sa l.length sc := ⟨_, _, by unfold subS; rw [show at_ + l.length - at_ = l.length by omega]⟩
  have hrs := fun (L : List HP) => (Rd.own (g := g) (L := cells rb [.slice a3 b.length c3, .int .i64 (at_ : Nat), .nilIface] 171 :: own (.slice a3 b.length c3) (zAm b) :: L) 1 rfl).subB (show at_ ≤ at_ + l.length by omega) (show at_ + l.length ≤ b.length by omega)
  have hx1 : (b.take (at_ + l.length)).drop at_ = l := by rw [List.drop_take, hb, show at_ + l.length - at_ = l.length by omega, List.take_left]
  rw [hx1, hsub] at hrs; rw [hsub]; refine zAw ?_; refine zBw (X := Nat) [5, 6, 7, 48, 49, 50, 51, 52, 53, 54, 55, 56, 57, 58, 59, 60] (fun k => [(5, .int .u64 ((valL (l.take k) : Nat) : Int)), (48, .int .i64 (k : Nat))]) (fun k w => k ≤ l.length ∧ Mem g w (cells rb [.slice a3 b.length c3, .int .i64 (at_ : Nat), .nilIface] 171 :: own (.slice a3 b.length c3) (zAm b) :: errC ad eb3 at_ 0 :: L)) (fun k => l.length - k) (0) ?_ ?_ ?_
  · exact ⟨rfl, rfl, trivial⟩
  · exact ⟨Nat.zero_le _, hs⟩
  clear hs; rintro x ξ w hI; obtain ⟨hk, hs⟩ := hI; refine zA6 (zA1 ?_); refine zA rfl (zB7 rfl rfl) ?_; refine zA4 ?_; refine zA6 ?_; refine zB8 rfl ?_ ?_
  ·
   intro h49; have g49 := of_decide_eq_true h49; obtain ⟨u, hu⟩ : ∃ u, l[x]? = some u := ⟨_, List.getElem?_eq_getElem (by omega)⟩; have hut := u.toNat_lt
   have hx8 : x ≤ 7 := by omega
   have htl : (l.take x).length = x := by rw [List.length_take]; omega
   have hvs : valL (l.take (x + 1)) = valL (l.take x) + u.toNat * 2 ^ (8 * x) := by rw [List.take_add_one, hu]; have h9 := valL_snoc u (l.take x); rw [htl] at h9; exact h9
   have hvl : valL (l.take x) < 2 ^ (8 * x) := by have h9 := valL_lt (l.take x); rw [htl] at h9; exact h9
   have hv64 : valL (l.take x) < 18446744073709551616 := Nat.lt_of_lt_of_le hvl (Nat.le_trans (Nat.pow_le_pow_right (by decide) (show 8 * x ≤ 64 by omega)) (by decide)); have hs64 : u.toNat * 2 ^ (8 * x) < 18446744073709551616 := Nat.lt_of_le_of_lt (Nat.mul_le_mul (show u.toNat ≤ 255 by omega) (Nat.pow_le_pow_right (by decide) (show 8 * x ≤ 56 by omega))) (by decide); obtain ⟨b1, o1, rfl, _⟩ := (hrs _).cells' hs (by rw [zAu]; omega); refine zAf ?_; refine zA6 ?_; refine zAw ?_; refine zA6 (zA1 ?_); refine zA rfl (zA0 (v := .int .i64 _) rfl) ?_; refine zA rfl (zBk zC0 sz5 rfl rfl rfl (by omega) rfl) ?_; refine zA rfl (zA8 uz5 rfl rfl ((hrs _).cellAt hs (zE2 hu))) ?_
   refine zA rfl (zA2 (v := .int .i64 _) rfl) ?_; refine zA rfl (zA2 (v := .int .u8 _) rfl) ?_; refine zA4 ?_; refine zA1 ?_; refine zA rfl (zA0 (v := .int .u64 _) rfl) ?_; refine zA rfl (zA0 (v := .int .u8 _) rfl) ?_; refine zA rfl (zAh uz5 zBj rfl (c := ((u.toNat : Nat) : Int)) (by rw [zB]; omega)) ?_; refine zA rfl (zA0 (v := .int .i64 _) rfl) ?_; refine zA rfl (zE3 rfl rfl (c := ((8 * x : Nat) : Int)) (by omega) (inI (by omega) (by omega))) ?_; refine zA rfl (run_shl rfl rfl (n := 8 * x) (c := ((u.toNat * 2 ^ (8 * x) : Nat) : Int)) rfl (by show 8 * x ≤ 64; omega) (shlN _ _ (by omega) hx8)) ?_
   refine zA rfl (zEh (v := .int .u64 ((valL (l.take (x + 1)) : Nat) : Int)) (by simp) rfl rfl (by have h9 := or_u64 (valL (l.take x)) (u.toNat * 2 ^ (8 * x)) hv64 hs64; rw [or_add hvl, ← hvs] at h9; exact (show _ = Result.ok (Value.int IntKind.u64 (bits .or .u64 ((valL (l.take x) : Nat) : Int) ((u.toNat * 2 ^ (8 * x) : Nat) : Int))) _ from rfl).trans (by rw [h9]))) ?_; refine zA rfl (zA2 (v := .int .u64 _) rfl) ?_; refine zA4 ?_; refine zA1 ?_; refine zA rfl (zAs rfl rfl rfl (inI (by omega) (by omega))) ?_; refine zA rfl (zA0 (v := .int .i64 _) rfl) ?_; refine zA4 ?_
   exact ⟨x + 1, by omega, ⟨by omega, hs⟩, ⟨rfl, rfl, trivial⟩, by repeat (first | exact Out.mix _ _ _ | refine Out.updo rfl ?_ | refine Out.upd rfl ?_ | refine Out.mixIn rfl ?_)⟩
  ·
   intro h49; have g49 := of_decide_eq_false h49
   obtain rfl : x = l.length := by omega
   rw [List.take_length]; refine zBg rfl ?_; refine zA6 (zA1 ?_); refine zA rfl (zA0 (v := .pointer (some _)) rfl) ?_; refine zA rfl (zA7 rfl) ?_; refine zA rfl (zA3 (o' := 1) zC6 rfl sz3 rfl rfl rfl) ?_; refine zA rfl (zA8 uz3 rfl rfl (hs.cellAt 0 rfl rfl)) ?_; refine zA rfl (zA0 (v := .int .i64 _) rfl) ?_; refine zA rfl (zAs rfl rfl (c := ((at_ + l.length : Nat) : Int)) (by omega) (inI (by omega) (by omega))) ?_; refine zA rfl (zA7 rfl) ?_; refine zA rfl (zA3 (o' := 1) zC6 rfl sz3 rfl rfl rfl) ?_; refine zAr (v := .int .i64 _) hs 0 rfl sz3 rfl rfl rfl rfl ?_; clear hs; intro w hs
   try simp only [List.set_cons_succ, List.set_cons_zero] at hs
   refine zA4 (zA6 (zA1 ?_)); refine zA rfl (zA0 (v := .int .u64 _) rfl) ?_; refine zA rfl (zA2 (v := .int .u64 _) rfl) ?_; refine zA4 ?_; refine zAg ?_; refine zBl (v := .int .u64 _) rfl rfl ?_; exact ⟨_, rfl, by simp only [List.take_length], Mem.closeR0 (by omega) hs⟩
/-! ### entries -/
abbrev En := Int × Mf
def zFr (q : Nat) (e : En) : List UInt8 := leR 8 q ++ (UInt8.ofNat e.1.toNat :: mfB e.2)
def frame (q : Nat) (e : En) : List UInt8 := leR 4 (zBt (zFr q e)).length ++ zBt (zFr q e)
def EnOk (e : En) : Prop := mfF e.2 = (0, none) ∧ 1 ≤ e.1 ∧ e.1 ≤ 4 ∧ ∀ o ∈ e.2.obs, o.2.2 < 4294967296
theorem zG8 (q : Nat) (e : En) : (zFr q e).length = (mfB e.2).length + 9 := by simp [zFr, zCv]; omega
theorem frame_len (q : Nat) (e : En) : (frame q e).length = (mfB e.2).length + 17 := by simp [frame, zCv, zC1, zG8]; omega
theorem frame_le {q : Nat} {e : En} (h : EnOk e) : (frame q e).length ≤ 6021 := by
  have := zEx (mf_fine (x := e.2) (by rw [h.1])); have h2 : (mfB e.2).length = (mfBody e.2).length + 4 := zC1 _
  rw [frame_len]; omega
theorem known_sl (hs : Mem g w L) (k : Int) : Calls Tryz.prog 79 #[.int .i64 k] w (Ret fun v w' => v = .bool (decide (1 ≤ k) && decide (k ≤ 4)) ∧ Mem g w' L) := by
  refine zAo Tryz.func79 rfl rfl ?_
  skip
  refine zA6 (zA1 ?_); refine zA rfl (zA2 (v := .bool _) rfl) ?_; refine zA4 (zA6 (zA1 ?_)); refine zA rfl (zA0 (v := .int .i64 _) rfl) ?_; refine zA rfl (zDd rfl rfl) ?_; refine zA rfl (zA0 (v := .bool _) rfl) ?_; refine zBa (t := _) (d := 5) rfl ?_ ?_
  ·
   intro h4; have g4 := of_decide_eq_true h4; refine zAi rfl rfl h4 ?_; refine zA rfl (zA0 (v := .int .i64 _) rfl) ?_; refine zAi rfl rfl h4 ?_; refine zA rfl (zDy rfl rfl) ?_; refine zA rfl (zAj (v := .bool _) rfl h4 rfl) ?_; refine zA rfl (zA2 (v := .bool _) rfl) ?_; refine zA4 ?_; refine zAg ?_; refine zBl (v := .bool _) rfl rfl ?_; exact ⟨_, rfl, zDa (by first | (rw [decide_eq_true (by omega : (1 : Int) ≤ k)]; rfl) | (rw [decide_eq_false (by omega : ¬ (1 : Int) ≤ k)]; rfl)), hs⟩
  ·
   intro h4; have g4 := of_decide_eq_false h4; refine zAc rfl rfl rfl h4 ?_; refine zAc rfl rfl rfl h4 ?_; refine zA rfl (zAk (v := .bool _) rfl h4 rfl) ?_; refine zA rfl (zA2 (v := .bool _) rfl) ?_; refine zA4 ?_; refine zAg ?_; refine zBl (v := .bool _) rfl rfl ?_; exact ⟨_, rfl, zDa (by first | (rw [decide_eq_true (by omega : (1 : Int) ≤ k)]; rfl) | (rw [decide_eq_false (by omega : ¬ (1 : Int) ≤ k)]; rfl)), hs⟩
set_option maxHeartbeats 1000000 in
theorem enBytes_sl (hE : ErrV ad g) (hs : Mem g w L) {q : Nat} (hq : q < 9223372036854775808) {k : Int} {x : Mf} {e o : SA} (hm : MfR g L x e o) (hk : EnOk (k, x)) : Calls Tryz.prog 38 #[.int .i64 q, .agg (.int .i64 k :: mfL x e o).toArray] w (Ret fun v w' => ∃ s : SA, v = .tuple #[.slice s.1 (frame q (k, x)).length s.2, .nilIface] ∧ Mem g w' (own (.slice s.1 (frame q (k, x)).length s.2) (zAm (frame q (k, x))) :: L)) := by
  obtain ⟨h0, hk1, hk2, hsu⟩ := hk; simp only at h0 hk1 hk2 hsu; have hml : (mfB x).length = (mfBody x).length + 4 := zC1 _; have hmb := zEx (mf_fine (x := x) (by rw [h0])); have h8 := zCv 8 q
  have hst : (UInt8.ofNat k.toNat).toNat = k.toNat := by rw [UInt8.toNat_ofNat']; omega
  refine zAo Tryz.func38 rfl rfl ?_
  skip
  refine zA6 (zA1 ?_); refine zCj (v := .agg _) hs rfl rfl ?_; clear hs; intro b3 w hs
  try simp only [List.set_cons_succ, List.set_cons_zero] at hs
  refine zA rfl (zA2 (v := .slice _ _ _) rfl) ?_; refine zA rfl (zA2 (v := .nilIface) rfl) ?_; refine zA4 ?_; refine zA6 ?_; refine zA6 (zA1 ?_); refine zA rfl (zA0 (v := .int .i64 _) rfl) ?_; refine zA rfl (zB7 rfl rfl) ?_; refine zA4 ?_; refine zAx rfl (decide_eq_false (by omega)) ?_; refine zAf ?_; refine zA6 ?_; refine zA6 (zA1 ?_); refine zA rfl (zA3 (o' := 0) zEa rfl sz3 rfl rfl rfl) ?_; refine zA rfl (zA8 uz3 rfl rfl (hs.cellAt 0 rfl rfl)) ?_; refine zAb rfl en79 (known_sl hs k) ?_; clear hs; rintro _ w ⟨rfl, hs⟩; refine zA rfl (zC4 rfl) ?_; refine zA4 ?_; refine zAx rfl (zC8 ((by rw [decide_eq_true hk1, decide_eq_true hk2]; rfl))) ?_; refine zAf ?_; refine zA6 (zA1 ?_)
  refine zA rfl (zA3 (o' := 1) zEa rfl zDf rfl rfl rfl) ?_; refine zA rfl (zCw hs 0 (mfL x e o) rfl zBx zDf rfl rfl) ?_; refine zAb rfl en80 (maniB_sl hE hs hm.cons h0 hsu) ?_; clear hs; rintro _ w ⟨a20, c20, rfl, hs⟩; refine zA rfl (zA0 (v := .tuple _) rfl) ?_; refine zA rfl (zAa (v := .slice _ _ _) rfl rfl) ?_; refine zA rfl (zAa (v := .nilIface) rfl rfl) ?_; refine zA rfl (zA2 (v := .slice _ _ _) rfl) ?_; refine zA rfl (zA2 (v := .nilIface) rfl) ?_; refine zA4 ?_; refine zA6 ?_; refine zA6 (zA1 ?_); refine zA rfl (zA0 (v := .nilIface) rfl) ?_; refine zA rfl (zBf rfl) ?_; refine zA4 ?_; refine zAx rfl (rfl) ?_; refine zAf ?_; refine zA6 ?_; refine zAy zBv hs ?_; intro w tr hK
  replace hs := tr _ hs; clear tr; refine zA5 0 rfl rfl (fun w hs => zA0 (v := .int .i64 _) rfl) hK ?_; refine zA5 1 rfl rfl (fun w hs => zAh uz2 zBj rfl (c := ((q : Nat) : Int)) (by rw [zB]; omega)) hK ?_; refine zA5 3 rfl rfl (fun w hs => zA3 (o' := 0) zEa rfl sz3 rfl rfl rfl) hK ?_; refine zA5 4 rfl rfl (fun w hs => zA8 uz3 rfl rfl (hs.cellAt 1 rfl rfl)) hK ?_; refine zA5 5 rfl rfl (fun w hs => zAh uz3 uz5 rfl (c := (((UInt8.ofNat k.toNat).toNat : Nat) : Int)) (by rw [← wrapB]; congr 1; omega)) hK ?_; refine zA9 [2, 6] ?_; refine ⟨⟨_, rfl, ?_⟩, ⟨_, rfl, ?_⟩, trivial⟩
  ·
   refine zAb rfl en81 (little_sl hs (n := q) (k := 8) (by decide) (by omega)) ?_; clear hs; rintro _ w ⟨s28, rfl, hs⟩; clear hK; have hK := hs.tail; refine zA4 ⟨hK, ?_⟩; refine zA9 [6] ?_; refine ⟨⟨_, rfl, ?_⟩, trivial⟩; refine zC7 hs rfl ((zAm [UInt8.ofNat k.toNat])) zC0 zs5 rfl (zDs (zBy _)) rfl rfl rfl ?_; clear hs; intro b32 w hs
   try simp only [List.set_cons_succ, List.set_cons_zero] at hs
   clear hK; have hK := hs.tail.tail; refine zA4 ⟨hK, ?_⟩; refine zA9 [7] ?_; refine ⟨⟨_, rfl, ?_⟩, trivial⟩; refine zCh hs rfl 1 rfl zC0 in5 rfl rfl rfl (zC5 (P := Tryz.prog) zC0 ((Rd.cells (n := 1) (cs := zAm [UInt8.ofNat k.toNat]) 0 rfl rfl).seq hs) (zBy _)) (by simp only [zAu, List.length_cons, List.length_nil]; omega) (by simp only [zAu, List.length_cons, List.length_nil]; omega) ?_; clear hs; intro a33 c33 w hs; simp only [List.set_cons_succ, List.set_cons_zero] at hs; have e1 : zAm (leR 8 q) ++ zAm [UInt8.ofNat k.toNat] = zAm (leR 8 q ++ [UInt8.ofNat k.toNat]) := (zCi _ _).symm
   have e2 : (zAm (leR 8 q)).length + (zAm [UInt8.ofNat k.toNat]).length = (leR 8 q ++ [UInt8.ofNat k.toNat]).length := by simp [zAu]
   rw [e2] at hs ⊢; rw [e1] at hs; clear hK; have hK := hs.tail.tail; refine zA4 ⟨hK, ?_⟩; refine zA5 8 rfl rfl (fun w hs => zA2 (v := .slice _ _ _) rfl) hK ?_; refine zAp (by kernel_rfl) ?_; clear hK; refine zA6 ?_; have h9 : Mem g w (own (.slice a33 (leR 8 q ++ [UInt8.ofNat k.toNat]).length c33) (zAm (leR 8 q ++ [UInt8.ofNat k.toNat])) :: cells b32 (zAm [UInt8.ofNat k.toNat]) 5 :: own (.slice a20 (mfB x).length c20) (zAm (mfB x)) :: cells b3 (Value.agg (.int .i64 k :: mfL x e o).toArray).cells.toList 41 :: L) := hs.arr [1, 0] 2 (by decide); replace hs := h9; clear h9; refine zA1 ?_; refine zA rfl (zA0 (v := .slice _ _ _) rfl) ?_; refine zA rfl (zA0 (v := .slice _ _ _) rfl) ?_
   refine zCh hs rfl 0 rfl zC0 in5 rfl rfl rfl (zC5 (P := Tryz.prog) zC0 ((Rd.own (l := zAm (mfB x)) 2 rfl).seq hs) (zBy _)) (by simp only [zAu, List.length_append, List.length_cons, List.length_nil]; omega) (by simp only [zAu, List.length_append, List.length_cons, List.length_nil]; omega) ?_; clear hs; intro a36 c36 w hs; simp only [List.set_cons_succ, List.set_cons_zero] at hs
   have e1 : zAm (leR 8 q ++ [UInt8.ofNat k.toNat]) ++ zAm (mfB x) = zAm (zFr q (k, x)) := by rw [← zCi]; simp [zFr]
   have e2 : (zAm (leR 8 q ++ [UInt8.ofNat k.toNat])).length + (zAm (mfB x)).length = (zFr q (k, x)).length := by simp [zAu, zFr]; omega
   rw [e2] at hs ⊢; rw [e1] at hs; refine zAb rfl en82 (seal_sl hs (l := zFr q (k, x)) (hs.rdOwn 0 rfl) rfl (by rw [zG8]; simp only; omega)) ?_; clear hs; rintro _ w ⟨a37, c37, rfl, hs⟩
   have hsl : (zBt (zFr q (k, x))).length = (mfB x).length + 13 := by rw [zC1, zG8]
   refine zA rfl (zA2 (v := .slice _ _ _) rfl) ?_; refine zA4 (zA6 (zA1 ?_)); refine zA rfl (zA0 (v := .slice _ _ _) rfl) ?_; refine zA rfl (zB2 zC0 rfl) ?_; refine zA rfl (zAh uz3 zBj rfl (c := (((zBt (zFr q (k, x))).length : Nat) : Int)) (by rw [zB]; omega)) ?_; refine zAb rfl en81 (little_sl hs (n := (zBt (zFr q (k, x))).length) (k := 4) (by decide) (by omega)) ?_; clear hs; rintro _ w ⟨s41, rfl, hs⟩; refine zA rfl (zA0 (v := .slice _ _ _) rfl) ?_; refine zCh hs rfl 0 rfl zC0 in5 rfl rfl rfl (zC5 (P := Tryz.prog) zC0 ((Rd.own (l := zAm (zBt (zFr q (k, x)))) 1 rfl).seq hs) (zBy _)) (by simp only [zAu, zCv]; omega) (by simp only [zAu, zCv]; omega) ?_; clear hs; intro a43 c43 w hs
   simp only [List.set_cons_succ, List.set_cons_zero] at hs
   have e1 : zAm (leR 4 (zBt (zFr q (k, x))).length) ++ zAm (zBt (zFr q (k, x))) = zAm (frame q (k, x)) := by rw [← zCi]; rfl
   have e2 : (zAm (leR 4 (zBt (zFr q (k, x))).length)).length + (zAm (zBt (zFr q (k, x)))).length = (frame q (k, x)).length := by simp [zAu, frame]
   rw [e2] at hs ⊢; rw [e1] at hs; refine zA rfl (zA2 (v := .slice _ _ _) rfl) ?_; refine zA rfl (zA2 (v := .nilIface) rfl) ?_; refine zA4 ?_; refine zAg ?_; refine res2 (v := .slice _ _ _) (v2 := .nilIface) rfl rfl rfl ?_; exact ⟨_, rfl, (a43, c43), rfl, hs.arr [0] 6 (by decide)⟩
  ·
   refine zC7 hs rfl ((zAm [UInt8.ofNat k.toNat])) zC0 zs5 rfl (zDs (zBy _)) rfl rfl rfl ?_; clear hs; intro b32 w hs
   try simp only [List.set_cons_succ, List.set_cons_zero] at hs
   clear hK; have hK := hs.tail; refine zA4 ⟨hK, ?_⟩; refine zA9 [2] ?_; refine ⟨⟨_, rfl, ?_⟩, trivial⟩; refine zAb rfl en81 (little_sl hs (n := q) (k := 8) (by decide) (by omega)) ?_; clear hs; rintro _ w ⟨s28, rfl, hs⟩; clear hK; have hK := hs.tail.tail; refine zA4 ⟨hK, ?_⟩; refine zA9 [7] ?_; refine ⟨⟨_, rfl, ?_⟩, trivial⟩; refine zCh hs rfl 0 rfl zC0 in5 rfl rfl rfl (zC5 (P := Tryz.prog) zC0 ((Rd.cells (n := 1) (cs := zAm [UInt8.ofNat k.toNat]) 1 rfl rfl).seq hs) (zBy _)) (by simp only [zAu, List.length_cons, List.length_nil]; omega) (by simp only [zAu, List.length_cons, List.length_nil]; omega) ?_; clear hs; intro a33 c33 w hs; simp only [List.set_cons_succ, List.set_cons_zero] at hs
   have e1 : zAm (leR 8 q) ++ zAm [UInt8.ofNat k.toNat] = zAm (leR 8 q ++ [UInt8.ofNat k.toNat]) := (zCi _ _).symm
   have e2 : (zAm (leR 8 q)).length + (zAm [UInt8.ofNat k.toNat]).length = (leR 8 q ++ [UInt8.ofNat k.toNat]).length := by simp [zAu]
   rw [e2] at hs ⊢; rw [e1] at hs; clear hK; have hK := hs.tail.tail; refine zA4 ⟨hK, ?_⟩; refine zA5 8 rfl rfl (fun w hs => zA2 (v := .slice _ _ _) rfl) hK ?_; refine zAp (by kernel_rfl) ?_; clear hK; refine zA6 (zA1 ?_); refine zA rfl (zA0 (v := .slice _ _ _) rfl) ?_; refine zA rfl (zA0 (v := .slice _ _ _) rfl) ?_; refine zCh hs rfl 0 rfl zC0 in5 rfl rfl rfl (zC5 (P := Tryz.prog) zC0 ((Rd.own (l := zAm (mfB x)) 2 rfl).seq hs) (zBy _)) (by simp only [zAu, List.length_append, List.length_cons, List.length_nil]; omega) (by simp only [zAu, List.length_append, List.length_cons, List.length_nil]; omega) ?_; clear hs; intro a36 c36 w hs; simp only [List.set_cons_succ, List.set_cons_zero] at hs
   have e1 : zAm (leR 8 q ++ [UInt8.ofNat k.toNat]) ++ zAm (mfB x) = zAm (zFr q (k, x)) := by rw [← zCi]; simp [zFr]
   have e2 : (zAm (leR 8 q ++ [UInt8.ofNat k.toNat])).length + (zAm (mfB x)).length = (zFr q (k, x)).length := by simp [zAu, zFr]; omega
   rw [e2] at hs ⊢; rw [e1] at hs; refine zAb rfl en82 (seal_sl hs (l := zFr q (k, x)) (hs.rdOwn 0 rfl) rfl (by rw [zG8]; simp only; omega)) ?_; clear hs; rintro _ w ⟨a37, c37, rfl, hs⟩
   have hsl : (zBt (zFr q (k, x))).length = (mfB x).length + 13 := by rw [zC1, zG8]
   refine zA rfl (zA2 (v := .slice _ _ _) rfl) ?_; refine zA4 (zA6 (zA1 ?_)); refine zA rfl (zA0 (v := .slice _ _ _) rfl) ?_; refine zA rfl (zB2 zC0 rfl) ?_; refine zA rfl (zAh uz3 zBj rfl (c := (((zBt (zFr q (k, x))).length : Nat) : Int)) (by rw [zB]; omega)) ?_; refine zAb rfl en81 (little_sl hs (n := (zBt (zFr q (k, x))).length) (k := 4) (by decide) (by omega)) ?_; clear hs; rintro _ w ⟨s41, rfl, hs⟩; refine zA rfl (zA0 (v := .slice _ _ _) rfl) ?_; refine zCh hs rfl 0 rfl zC0 in5 rfl rfl rfl (zC5 (P := Tryz.prog) zC0 ((Rd.own (l := zAm (zBt (zFr q (k, x)))) 1 rfl).seq hs) (zBy _)) (by simp only [zAu, zCv]; omega) (by simp only [zAu, zCv]; omega) ?_; clear hs; intro a43 c43 w hs
   simp only [List.set_cons_succ, List.set_cons_zero] at hs
   have e1 : zAm (leR 4 (zBt (zFr q (k, x))).length) ++ zAm (zBt (zFr q (k, x))) = zAm (frame q (k, x)) := by rw [← zCi]; rfl
   have e2 : (zAm (leR 4 (zBt (zFr q (k, x))).length)).length + (zAm (zBt (zFr q (k, x)))).length = (frame q (k, x)).length := by simp [zAu, frame]
   rw [e2] at hs ⊢; rw [e1] at hs; refine zA rfl (zA2 (v := .slice _ _ _) rfl) ?_; refine zA rfl (zA2 (v := .nilIface) rfl) ?_; refine zA4 ?_; refine zAg ?_; refine res2 (v := .slice _ _ _) (v2 := .nilIface) rfl rfl rfl ?_; exact ⟨_, rfl, (a43, c43), rfl, hs.arr [0] 6 (by decide)⟩
end Go.Proofs.YtdkgdjnbpjjfmaaGreatDoor
namespace Go.Proofs
open Go.Shelf
def Tryz.keys60_ren : Go.Shelf.Ren := ⟨fun | 7 => 60 | 10 => 103 | n => n, fun | 23 => 69 | 26 => 9 | 3 => 90 | 28 => 116 | 0 => 0 | 27 => 115 | 33 => 133 | 4 => 4 | n => n, fun | n => n⟩
def Tryz.sorted59_ren : Go.Shelf.Ren := ⟨fun | 6 => 59 | 8 => 101 | 9 => 102 | 11 => 131 | 13 => 106 | 12 => 132 | 23 => 141 | 24 => 142 | 14 => 157 | 15 => 158 | 16 => 159 | 17 => 160 | 18 => 161 | 19 => 162 | 20 => 163 | 21 => 164 | 22 => 165 | 25 => 183 | 26 => 167 | 27 => 168 | 28 => 184 | 29 => 185 | 30 => 186 | 31 => 192 | n => n, fun | 26 => 9 | 28 => 116 | 24 => 62 | 0 => 0 | 3 => 3 | 37 => 156 | 48 => 111 | 50 => 100 | 4 => 4 | 40 => 199 | 39 => 198 | 45 => 203 | 5 => 5 | 9 => 9 | 51 => 222 | 55 => 226 | 57 => 239 | 58 => 240 | 33 => 133 | n => n, fun | n => n⟩
def Tryz.sort102_ren : Go.Shelf.Ren := ⟨fun | 6 => 102 | 8 => 106 | 9 => 132 | 19 => 141 | 20 => 142 | 21 => 157 | 22 => 158 | 23 => 159 | 24 => 160 | 25 => 161 | 26 => 162 | 27 => 163 | 28 => 164 | 29 => 165 | 36 => 183 | 31 => 167 | 32 => 168 | 37 => 184 | 38 => 185 | 39 => 186 | 41 => 192 | n => n, fun | 27 => 62 | 29 => 9 | 3 => 3 | 32 => 156 | 26 => 62 | 0 => 0 | 44 => 111 | 46 => 100 | 4 => 4 | 36 => 199 | 35 => 198 | 41 => 203 | 5 => 5 | 9 => 9 | 53 => 222 | 57 => 226 | 63 => 239 | 64 => 240 | n => n, fun | n => n⟩
def Tryz.keys98_ren : Go.Shelf.Ren := ⟨fun | 7 => 98 | 10 => 130 | n => n, fun | 23 => 77 | 26 => 3 | 3 => 85 | 28 => 159 | 0 => 0 | 27 => 158 | 33 => 142 | 4 => 4 | n => n, fun | n => n⟩
theorem Tryz.keys98 : Go.Proofs.SlLaysZI.n7 Tryz.prog Tryz.keys98_ren := {
  mixed := by kernel_rfl
  f7 := ⟨Tryz.f98.name, by decide, Tryz.func98.trans (congrArg some (by kernel_rfl))⟩
  f10 := ⟨Tryz.f130.name, by decide, Tryz.func130.trans (congrArg some (by kernel_rfl))⟩
  t0 := Tryz.underlying0
  a0 := Tryz.isAgg0
  z0 := Tryz.sizeOf0
  v0 := Tryz.zeroValue0
  t4 := Tryz.underlying4
  a4 := Tryz.isAgg4
  z4 := Tryz.sizeOf4
  v4 := Tryz.zeroValue4
  t23 := Tryz.underlying77
  a23 := Tryz.isAgg77
  z23 := Tryz.sizeOf77
  v23 := Tryz.zeroValue77
  t26 := Tryz.underlying3
  a26 := Tryz.isAgg3
  z26 := Tryz.sizeOf3
  v26 := Tryz.zeroValue3
  t27 := Tryz.underlying158
  a27 := Tryz.isAgg158
  z27 := Tryz.sizeOf158
  v27 := Tryz.zeroValue158
  t28 := Tryz.underlying159
  a28 := Tryz.isAgg159
  z28 := Tryz.sizeOf159
  v28 := Tryz.zeroValue159
  t33 := Tryz.underlying142
  a33 := Tryz.isAgg142
  z33 := Tryz.sizeOf142
  v33 := Tryz.zeroValue142 }
def Tryz.sorted97_ren : Go.Shelf.Ren := ⟨fun | 6 => 97 | 8 => 128 | 9 => 129 | 11 => 155 | 13 => 106 | 12 => 156 | 23 => 141 | 24 => 142 | 14 => 174 | 15 => 175 | 16 => 176 | 17 => 177 | 18 => 178 | 19 => 179 | 20 => 180 | 21 => 181 | 22 => 182 | 25 => 188 | 26 => 167 | 27 => 168 | 28 => 189 | 29 => 190 | 30 => 191 | 31 => 193 | n => n, fun | 26 => 3 | 28 => 159 | 24 => 22 | 0 => 0 | 3 => 3 | 37 => 156 | 48 => 111 | 50 => 100 | 4 => 4 | 40 => 199 | 39 => 198 | 45 => 203 | 5 => 5 | 9 => 9 | 51 => 222 | 55 => 226 | 57 => 239 | 58 => 240 | 33 => 142 | n => n, fun | n => n⟩
theorem Tryz.sorted97 : Go.Proofs.SlLaysZI.n6 Tryz.prog Tryz.sorted97_ren := {
  mixed := by kernel_rfl
  f6 := ⟨Tryz.f97.name, by decide, Tryz.func97.trans (congrArg some (by kernel_rfl))⟩
  f8 := ⟨Tryz.f128.name, by decide, Tryz.func128.trans (congrArg some (by kernel_rfl))⟩
  f11 := ⟨Tryz.f155.name, by decide, Tryz.func155.trans (congrArg some (by kernel_rfl))⟩
  t0 := Tryz.underlying0
  a0 := Tryz.isAgg0
  z0 := Tryz.sizeOf0
  v0 := Tryz.zeroValue0
  t24 := Tryz.underlying22
  a24 := Tryz.isAgg22
  z24 := Tryz.sizeOf22
  v24 := Tryz.zeroValue22
  t26 := Tryz.underlying3
  a26 := Tryz.isAgg3
  z26 := Tryz.sizeOf3
  v26 := Tryz.zeroValue3
  t28 := Tryz.underlying159
  a28 := Tryz.isAgg159
  z28 := Tryz.sizeOf159
  v28 := Tryz.zeroValue159
  i26 := by kernel_rfl }
def Tryz.sort129_ren : Go.Shelf.Ren := ⟨fun | 5 => 129 | 8 => 106 | 7 => 156 | 19 => 141 | 20 => 142 | 10 => 174 | 11 => 175 | 12 => 176 | 13 => 177 | 14 => 178 | 15 => 179 | 16 => 180 | 17 => 181 | 18 => 182 | 30 => 188 | 31 => 167 | 32 => 168 | 33 => 189 | 34 => 190 | 35 => 191 | 40 => 193 | n => n, fun | 23 => 22 | 25 => 3 | 3 => 3 | 32 => 156 | 22 => 22 | 0 => 0 | 44 => 111 | 46 => 100 | 4 => 4 | 36 => 199 | 35 => 198 | 41 => 203 | 5 => 5 | 9 => 9 | 53 => 222 | 57 => 226 | 63 => 239 | 64 => 240 | n => n, fun | n => n⟩
theorem Tryz.sort129 : Go.Proofs.SlLaysM.n5 Tryz.prog Tryz.sort129_ren := {
  mixed := by kernel_rfl
  f5 := ⟨Tryz.f129.name, by decide, Tryz.func129.trans (congrArg some (by kernel_rfl))⟩
  f7 := ⟨Tryz.f156.name, by decide, Tryz.func156.trans (congrArg some (by kernel_rfl))⟩
  f8 := Tryz.func106.trans (congrArg some (by kernel_rfl))
  f10 := ⟨Tryz.f174.name, by decide, Tryz.func174.trans (congrArg some (by kernel_rfl))⟩
  f11 := ⟨Tryz.f175.name, by decide, Tryz.func175.trans (congrArg some (by kernel_rfl))⟩
  f12 := ⟨Tryz.f176.name, by decide, Tryz.func176.trans (congrArg some (by kernel_rfl))⟩
  f13 := ⟨Tryz.f177.name, by decide, Tryz.func177.trans (congrArg some (by kernel_rfl))⟩
  f14 := ⟨Tryz.f178.name, by decide, Tryz.func178.trans (congrArg some (by kernel_rfl))⟩
  f15 := ⟨Tryz.f179.name, by decide, Tryz.func179.trans (congrArg some (by kernel_rfl))⟩
  f16 := ⟨Tryz.f180.name, by decide, Tryz.func180.trans (congrArg some (by kernel_rfl))⟩
  f17 := ⟨Tryz.f181.name, by decide, Tryz.func181.trans (congrArg some (by kernel_rfl))⟩
  f18 := ⟨Tryz.f182.name, by decide, Tryz.func182.trans (congrArg some (by kernel_rfl))⟩
  f19 := Tryz.func141.trans (congrArg some (by kernel_rfl))
  f20 := Tryz.func142.trans (congrArg some (by kernel_rfl))
  f30 := ⟨Tryz.f188.name, by decide, Tryz.func188.trans (congrArg some (by kernel_rfl))⟩
  f31 := Tryz.func167.trans (congrArg some (by kernel_rfl))
  f32 := Tryz.func168.trans (congrArg some (by kernel_rfl))
  f33 := ⟨Tryz.f189.name, by decide, Tryz.func189.trans (congrArg some (by kernel_rfl))⟩
  f34 := ⟨Tryz.f190.name, by decide, Tryz.func190.trans (congrArg some (by kernel_rfl))⟩
  f35 := ⟨Tryz.f191.name, by decide, Tryz.func191.trans (congrArg some (by kernel_rfl))⟩
  f40 := ⟨Tryz.f193.name, by decide, Tryz.func193.trans (congrArg some (by kernel_rfl))⟩
  t0 := Tryz.underlying0
  a0 := Tryz.isAgg0
  z0 := Tryz.sizeOf0
  v0 := Tryz.zeroValue0
  t3 := Tryz.underlying3
  a3 := Tryz.isAgg3
  z3 := Tryz.sizeOf3
  v3 := Tryz.zeroValue3
  t4 := Tryz.underlying4
  a4 := Tryz.isAgg4
  z4 := Tryz.sizeOf4
  v4 := Tryz.zeroValue4
  t5 := Tryz.underlying5
  a5 := Tryz.isAgg5
  z5 := Tryz.sizeOf5
  v5 := Tryz.zeroValue5
  t9 := Tryz.underlying9
  a9 := Tryz.isAgg9
  z9 := Tryz.sizeOf9
  v9 := Tryz.zeroValue9
  t22 := Tryz.underlying22
  a22 := Tryz.isAgg22
  z22 := Tryz.sizeOf22
  v22 := Tryz.zeroValue22
  t23 := Tryz.underlying22
  a23 := Tryz.isAgg22
  z23 := Tryz.sizeOf22
  v23 := Tryz.zeroValue22
  t25 := Tryz.underlying3
  a25 := Tryz.isAgg3
  z25 := Tryz.sizeOf3
  v25 := Tryz.zeroValue3
  t32 := Tryz.underlying156
  a32 := Tryz.isAgg156
  z32 := Tryz.sizeOf156
  v32 := Tryz.zeroValue156
  t35 := Tryz.underlying198
  a35 := Tryz.isAgg198
  z35 := Tryz.sizeOf198
  v35 := Tryz.zeroValue198
  t36 := Tryz.underlying199
  a36 := Tryz.isAgg199
  z36 := Tryz.sizeOf199
  v36 := Tryz.zeroValue199
  t41 := Tryz.underlying203
  a41 := Tryz.isAgg203
  z41 := Tryz.sizeOf203
  v41 := Tryz.zeroValue203
  t44 := Tryz.underlying111
  a44 := Tryz.isAgg111
  z44 := Tryz.sizeOf111
  v44 := Tryz.zeroValue111
  t46 := Tryz.underlying100
  a46 := Tryz.isAgg100
  z46 := Tryz.sizeOf100
  v46 := Tryz.zeroValue100
  t53 := Tryz.underlying222
  a53 := Tryz.isAgg222
  z53 := Tryz.sizeOf222
  v53 := Tryz.zeroValue222
  t57 := Tryz.underlying226
  a57 := Tryz.isAgg226
  z57 := Tryz.sizeOf226
  v57 := Tryz.zeroValue226
  t63 := Tryz.underlying239
  a63 := Tryz.isAgg239
  z63 := Tryz.sizeOf239
  v63 := Tryz.zeroValue239
  t64 := Tryz.underlying240
  a64 := Tryz.isAgg240
  z64 := Tryz.sizeOf240
  v64 := Tryz.zeroValue240 }
end Go.Proofs
