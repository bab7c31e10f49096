/- The remote log: Append. The document's Make; the manifests of the statements. The statements' entries. The remote log as the statements see it. What an error is as plain data: with a place, too. Errors as the statements see them, bare or with a place. Ways that meet again, told by slots. mani.Read on any bytes. entry.Read on any bytes. What a log has behind a crash. A log whose file has any bytes: what stands under names, synced or not; what reading goes on to. The remote log opened on any bytes. -/
import Derived.Test.YtdkgdjnbpjjfmaaGreatDoorB6
import Derived.Test.YtdkgdjnbpjjfmaaGreatDoorB4
import Derived.Test.YtdkgdjnbpjjfmaaGreatDoorB5
import Derived.Test.YtdkgdjnbpjjfmaaGreatDoorB2
import Derived.Test.YtdkgdjnbpjjfmaaGreatDoorB1
import Derived.Laws.BytesString
namespace Go.Proofs.YtdkgdjnbpjjfmaaGreatDoor
set_option linter.all false
open Go.RowKit
attribute [local irreducible] zAq eV
variable {g w : World} {L M : List HP} {ad : Nat → Addr} {p d pv ev : Nat} {dk : Dk} {f : ByteArray → Option (List UInt8)} {V U : Vw} {q r c n : Nat} {b mb : List UInt8}

/-- An entry that may not come. -/
theorem appBad_sl (hM : ErrM ad g) (hs : Mem g w (LogC p d ev V q c n :: zBz d dk :: L)) {k : Int} {x : Mf} {e o : SA} (hm : MfR g L x e o) (hob : x.obs.length ≤ 1000000) (hap : (V.apply k x).1.1 ≠ 0) : Calls Tryz.prog 13 #[.pointer (some ⟨p, 0, none⟩), .agg (.int .i64 k :: mfL x e o).toArray] w (Ret fun v w' => ∃ eb, v = flV ad (V.apply k x).1 eb ∧ Mem g w' (flC ad (V.apply k x).1 eb :: LogC p d ev V q c n :: zBz d dk :: L)) := by
  obtain ⟨pv, hs⟩ := hs.openL; refine zAo Tryz.func13 rfl rfl ?_
  skip
  refine zA6 (zA1 ?_); refine zCj (v := .agg _) hs rfl rfl ?_; clear hs; intro b3 w hs
  try simp only [List.set_cons_succ, List.set_cons_zero] at hs
  refine zA rfl (zA2 (v := .nilIface) rfl) ?_; refine zA4 (zA6 (zA1 ?_)); refine zA rfl (zA0 (v := .pointer (some _)) rfl) ?_; refine zA rfl (zA7 rfl) ?_; refine zA rfl (zA3 (o' := 2) zCf rfl sz33 rfl rfl rfl) ?_; refine zA rfl (zA8 uz33 rfl rfl (hs.cellAt 1 rfl rfl)) ?_; refine zAb rfl en16 (cloneq_sl (hs.arr [2, 0, 1, 3] 4 (by decide))) ?_; clear hs; rintro _ w ⟨u, rfl, hs⟩; refine zA rfl (zA2 (v := .pointer (some _)) rfl) ?_; refine zA4 ?_; refine zA6 ?_; refine zA6 (zA1 ?_); refine zA rfl (zA0 (v := .pointer (some _)) rfl) ?_; refine zA rfl (zBc hs 2 rfl zEa zEq rfl) ?_; refine zAb rfl en14 (zF0 hM.toV hs k hm.cons.cons.cons.cons hob) ?_; clear hs; rintro _ w ⟨eb, rfl, hs⟩
  refine zA rfl (zA2 (v := flV ad _ _) rfl) ?_; refine zA4 (zA6 (zA1 ?_)); refine zA rfl (zA0 (v := flV ad _ _) rfl) ?_; refine zA rfl (zF7 (.inr hap) rfl) ?_; refine zA4 ?_; refine zBb rfl ((by rw [decide_eq_false hap]; rfl)) ?_; refine zA6 (zA1 ?_); refine zA rfl (zA0 (v := flV ad _ _) rfl) ?_; refine zA rfl (zA2 (v := flV ad _ _) rfl) ?_; refine zA4 ?_; refine zAg ?_; refine zBl (v := flV ad _ _) rfl rfl ?_; exact ⟨_, rfl, eb, rfl, (Mem.closeL (hs.arr [4, 2, 0, 5] 6 (by decide))).arr [1, 0, 2] 3 (by decide)⟩
/-- What an Append of an entry that may come leaves. -/
def AppOut (f : ByteArray → Option (List UInt8)) (dk : Dk) (ev : Nat) (V1 : Vw) (q c : Nat) (mb fr : List UInt8) (k : Nat) (dk2 : Dk) (V' : Vw) (q' c' n' : Nat) : Prop :=
  dk2.room = dk.room ∧ dk2.calls ≤ dk.calls + 9 ∧
  (k = 0 ∧ dk2.down = false ∧ (dk.armed = 0 → dk2.armed = 0) ∧ V' = V1 ∧ q' = q + 1 ∧ (c + 1 < ev ∧ c' = c + 1 ∧ n' = mb.length + fr.length ∧ LgI (zDq f mtN (mb ++ fr)) dk2 ∨ ev ≤ c + 1 ∧ c' = 0 ∧ n' = 0 ∧ LgI (zDq (zDq (zDq f mtN (mb ++ fr)) snN (zBt (snapB (q + 1) V1))) mtN []) dk2) ∨
   k = 0 ∧ dk2.down = true ∧ dk.armed ≠ 0 ∧ (∀ picks, LgI (zDq f mtN (mb ++ fr)) (dk2.crash picks) ∨ LgI (zDq (zDq f mtN (mb ++ fr)) snN (zBt (snapB (q + 1) V1))) (dk2.crash picks)) ∨
   k = 110 ∧ dk2.down = true ∧ dk.armed ≠ 0 ∧ ∀ picks, ∃ j, LgI (zDq f mtN (mb ++ fr.take j)) (dk2.crash picks))
set_option maxHeartbeats 2000000 in
theorem appOk_sl (hM : ErrM ad g) (hs : Mem g w (LogC p d ev V q c n :: zBz d dk :: L)) (hI : LgI f dk) (hf : f mtN = some mb) (hn : n = mb.length) (hcl : dk.calls < 700000) (hr : 1000000 ≤ dk.room) (hu : V.sums) (hl : V.length ≤ 31) (hq : q < 1000000) (hc : c ≤ 1000000) (hb : mb.length + 6021 ≤ 200000) {k : Int} {x : Mf} {e o : SA} (hm : MfR g L x e o) (hob : x.obs.length ≤ 1000000) (hsu : ∀ o ∈ x.obs, o.2.2 < 4294967296) (hap : (V.apply k x).1 = (0, none)) :
    Calls Tryz.prog 13 #[.pointer (some ⟨p, 0, none⟩), .agg (.int .i64 k :: mfL x e o).toArray] w (Ret fun v w' => ∃ kr dk2 V' q' c' n', v = zAq ad kr ∧ AppOut f dk ev (V.apply k x).2 q c mb (frame (q + 1) (k, x)) kr dk2 V' q' c' n' ∧ Mem g w' (LogC p d ev V' q' c' n' :: zBz d dk2 :: L)) := by
  subst hn; have hK := hM.toK; obtain ⟨pv, hs⟩ := hs.openL; have hen := Vw.apply_en hap; have hok : EnOk (k, x) := ⟨hen.1, hen.2.1, hen.2.2, hsu⟩; have hfl := frame_le (q := q + 1) hok; obtain ⟨fr, hfr⟩ : ∃ fr, fr = frame (q + 1) (k, x) := ⟨_, rfl⟩; have hlen := V.apply_len k x; have hsu1 := Vw.apply_sums hu (k := k) hsu; obtain ⟨V1, hV1⟩ : ∃ V1, V1 = (V.apply k x).2 := ⟨_, rfl⟩; rw [← hfr] at hfl; rw [← hV1] at hlen hsu1; obtain ⟨ka, da, hap1, har, hac, hacase⟩ := hI.grow zCu hf (x := fr) (by omega) (by show 2 * 2 * 200000 + 200000 ≤ dk.room; omega); refine zAo Tryz.func13 rfl rfl ?_
  skip
  refine zA6 (zA1 ?_); refine zCj (v := .agg _) hs rfl rfl ?_; clear hs; intro b3 w hs
  try simp only [List.set_cons_succ, List.set_cons_zero] at hs
  refine zA rfl (zA2 (v := .nilIface) rfl) ?_; refine zA4 (zA6 (zA1 ?_)); refine zA rfl (zA0 (v := .pointer (some _)) rfl) ?_; refine zA rfl (zA7 rfl) ?_; refine zA rfl (zA3 (o' := 2) zCf rfl sz33 rfl rfl rfl) ?_; refine zA rfl (zA8 uz33 rfl rfl (hs.cellAt 1 rfl rfl)) ?_; refine zAb rfl en16 (cloneq_sl (hs.arr [2, 0, 1, 3] 4 (by decide))) ?_; clear hs; rintro _ w ⟨u, rfl, hs⟩; refine zA rfl (zA2 (v := .pointer (some _)) rfl) ?_; refine zA4 ?_; refine zA6 ?_; refine zA6 (zA1 ?_); refine zA rfl (zA0 (v := .pointer (some _)) rfl) ?_; refine zA rfl (zBc hs 2 rfl zEa zEq rfl) ?_; refine zAb rfl en14 (zF0 hM.toV hs k hm.cons.cons.cons.cons hob) ?_; clear hs; rintro _ w ⟨eb, rfl, hs⟩
  rw [hap] at hs ⊢; replace hs := hs.tail; rw [← hV1] at hs ⊢; refine zA rfl (zA2 (v := zAq ad _) rfl) ?_; refine zA4 (zA6 (zA1 ?_)); refine zA rfl (zA0 (v := zAq ad _) rfl) ?_; refine zA rfl (zAt (ad := ad) rfl) ?_; refine zA4 ?_; refine zAx rfl (rfl) ?_; refine zAf ?_; refine zA6 ?_; refine zA6 (zA1 ?_); refine zA rfl (zA0 (v := .pointer (some _)) rfl) ?_; refine zA rfl (zA7 rfl) ?_; refine zA rfl (zA3 (o' := 3) zCf rfl sz2 rfl rfl rfl) ?_; refine zA rfl (zA8 uz2 rfl rfl (hs.cellAt 3 rfl rfl)) ?_; refine zA rfl (zBn rfl rfl) ?_; refine zA4 ?_; refine zAx rfl (decide_eq_false (by omega)) ?_; refine zAf ?_; refine zA6 ?_; refine zAy zBv hs ?_; intro w tr hK; replace hs := tr _ hs; clear tr
  refine zA5 0 rfl rfl (fun w hs => zA0 (v := .pointer (some _)) rfl) hK ?_; refine zA5 1 rfl rfl (fun w hs => zA7 rfl) hK ?_; refine zA5 2 rfl rfl (fun w hs => zA3 (o' := 3) zCf rfl sz2 rfl rfl rfl) hK ?_; refine zA5 3 rfl rfl (fun w hs => zA8 uz2 rfl rfl (hs.cellAt 3 rfl rfl)) hK ?_; refine zA5 4 rfl rfl (fun w hs => zAs rfl rfl (c := ((q + 1 : Nat) : Int)) (by omega) (inI (by omega) (by omega))) hK ?_; refine zA5 5 rfl rfl (fun w hs => zBc hs 2 rfl zEa zEq rfl) hK ?_; refine zA9 [6] ?_; refine ⟨⟨_, rfl, ?_⟩, trivial⟩; refine zAb rfl en38 (enBytes_sl hM.toV hs (q := q + 1) (by omega) hm.cons.cons.cons.cons.cons hok) ?_; clear hs; rintro _ w ⟨s33, rfl, hs⟩; rw [← hfr] at hs ⊢; clear hK
  have hK := hs.tail; refine zA4 ⟨hK, ?_⟩; refine zA5 7 rfl rfl (fun w hs => zA0 (v := .tuple _) rfl) hK ?_; refine zA5 8 rfl rfl (fun w hs => zAa (v := .slice _ _ _) rfl rfl) hK ?_; refine zA5 9 rfl rfl (fun w hs => zAa (v := .nilIface) rfl rfl) hK ?_; refine zA5 10 rfl rfl (fun w hs => zA2 (v := .slice _ _ _) rfl) hK ?_; refine zA5 11 rfl rfl (fun w hs => zA2 (v := .nilIface) rfl) hK ?_; refine zAp (by kernel_rfl) ?_; clear hK; refine zA6 ?_; refine zA6 (zA1 ?_); refine zA rfl (zA0 (v := .nilIface) rfl) ?_; refine zA rfl (zBf rfl) ?_; refine zA4 ?_; refine zAx rfl (rfl) ?_; refine zAf ?_; refine zA6 (zA1 ?_); refine zA rfl (zA0 (v := .pointer (some _)) rfl) ?_; refine zA rfl (zA7 rfl) ?_
  refine zA rfl (zA3 (o' := 0) zCf rfl sz25 rfl rfl rfl) ?_; refine zA rfl (zA8 uz25 rfl rfl (hs.cellAt 4 rfl rfl)) ?_; refine zA rfl (zA0 (v := .slice _ _ _) rfl) ?_; refine zAb rfl en19 (append_sl hM.toK (hs.arr [5, 0, 1, 2, 3, 4] 6 (by decide)) (by omega) mtN (x := fr) (Rd.own 0 rfl) rfl (by omega) hap1) ?_; clear hs; rintro _ w ⟨rfl, hs⟩; refine zA rfl (zA2 (v := zAq ad _) rfl) ?_; refine zA4 ?_; refine zA6 ?_; refine zA6 ?_
  obtain ⟨rfl, hdn, hne, hcr⟩ | ⟨rfl, hup, k2, d2, hsy, hsr, hsc, hscase⟩ := hacase
  ·
   refine zA1 ?_; refine zA rfl (zA0 (v := zAq ad _) rfl) ?_; refine zA rfl (zD3 (ad := ad) rfl) ?_; refine zA4 ?_; refine zAx rfl (rfl) ?_; refine zAf ?_; refine zA6 ?_; refine zA6 (zA1 ?_); refine zA rfl (zA0 (v := zAq ad _) rfl) ?_; refine zA rfl (zAt (ad := ad) rfl) ?_; refine zA4 ?_; refine zBb rfl (rfl) ?_; refine zA6 (zA1 ?_); refine zA rfl (zA0 (v := zAq ad _) rfl) ?_; refine zA rfl (zA2 (v := zAq ad _) rfl) ?_; refine zA4 ?_; refine zAg ?_; refine zBl (v := zAq ad _) rfl rfl ?_
   exact ⟨_, rfl, 110, da, V, q, c, mb.length, rfl, ⟨har, by omega, .inr (.inr ⟨rfl, hdn, hne, fun picks => ⟨0, by rw [List.take_zero, List.append_nil, zDb hf]; exact hcr (hs.openD).1 picks⟩⟩)⟩, Mem.closeL (hs.arr [5, 3, 0] 6 (by decide))⟩
  ·
   refine zA1 ?_; refine zA rfl (zA0 (v := zAq ad _) rfl) ?_; refine zA rfl (zD3 (ad := ad) rfl) ?_; refine zA4 ?_; refine zBb rfl (rfl) ?_; refine zA6 (zA1 ?_); refine zA rfl (zA0 (v := .pointer (some _)) rfl) ?_; refine zA rfl (zA7 rfl) ?_; refine zA rfl (zA3 (o' := 0) zCf rfl sz25 rfl rfl rfl) ?_; refine zA rfl (zA8 uz25 rfl rfl (hs.cellAt 5 rfl rfl)) ?_; refine zAb rfl en39 (zFs hM.toK hs (by omega) mtN hsy) ?_; clear hs; rintro _ w ⟨rfl, hs⟩; refine zA rfl (zA2 (v := zAq ad _) rfl) ?_; refine zA4 ?_; refine zA6 ?_
   obtain ⟨rfl, hup2, har2, hI2⟩ | ⟨rfl, hdn2, hne2, hcr2⟩ := hscase
   ·
    refine zA1 ?_; refine zA rfl (zA0 (v := zAq ad _) rfl) ?_; refine zA rfl (zAt (ad := ad) rfl) ?_; refine zA4 ?_; refine zAx rfl (rfl) ?_; refine zAf ?_; refine zA6 ?_; refine zA6 (zA1 ?_); refine zA rfl (zA0 (v := zAq ad _) rfl) ?_; refine zA rfl (zAt (ad := ad) rfl) ?_; refine zA4 ?_; refine zAx rfl (rfl) ?_; refine zAf ?_; refine zA6 ?_; have hI3 := hI2 (hs.openD).1; refine zAy zBv (hs.drop 5) ?_; intro w tr hK; replace hs := tr _ hs; clear tr; refine zA5 0 rfl rfl (fun w hs => zA0 (v := .pointer (some _)) rfl) hK ?_; refine zA5 1 rfl rfl (fun w hs => zA0 (v := .pointer (some _)) rfl) hK ?_; refine zA5 2 rfl rfl (fun w hs => zA0 (v := .pointer (some _)) rfl) hK ?_
    refine zA5 3 rfl rfl (fun w hs => zA0 (v := .pointer (some _)) rfl) hK ?_; refine zA5 4 rfl rfl (fun w hs => zA0 (v := .pointer (some _)) rfl) hK ?_; refine zA5 5 rfl rfl (fun w hs => zA7 rfl) hK ?_; refine zA5 6 rfl rfl (fun w hs => zA3 (o' := 3) zCf rfl sz2 rfl rfl rfl) hK ?_; refine zA5 9 rfl rfl (fun w hs => zA0 (v := .pointer (some _)) rfl) hK ?_; refine zA5 10 rfl rfl (fun w hs => zA7 rfl) hK ?_; refine zA5 11 rfl rfl (fun w hs => zA3 (o' := 5) zCf rfl sz3 rfl rfl rfl) hK ?_; refine zA5 13 rfl rfl (fun w hs => zA0 (v := .slice _ _ _) rfl) hK ?_; refine zA5 14 rfl rfl (fun w hs => zB2 zC0 rfl) hK ?_; refine zA9 [7, 12] ?_; refine ⟨⟨_, rfl, ?_⟩, ⟨_, rfl, ?_⟩, trivial⟩
    ·
     refine zA rfl (zA8 uz2 rfl rfl (hs.cellAt 5 rfl rfl)) ?_; clear hK; have hK := hs.drop 5; refine zA4 ⟨hK, ?_⟩; refine zA5 8 rfl rfl (fun w hs => zAs rfl rfl (c := ((q + 1 : Nat) : Int)) (by omega) (inI (by omega) (by omega))) hK ?_; refine zA9 [12] ?_; refine ⟨⟨_, rfl, ?_⟩, trivial⟩; refine zA rfl (zA8 uz3 rfl rfl (hs.cellAt 5 rfl rfl)) ?_; clear hK; have hK := hs.drop 5; refine zA4 ⟨hK, ?_⟩; refine zA5 15 rfl rfl (fun w hs => zAs rfl rfl (c := ((mb.length + fr.length : Nat) : Int)) (by omega) (inI (by omega) (by omega))) hK ?_; refine zA5 16 rfl rfl (fun w hs => zA7 rfl) hK ?_; refine zA5 17 rfl rfl (fun w hs => zA3 (o' := 2) zCf rfl sz33 rfl rfl rfl) hK ?_; refine zA9 [18] ?_
     refine ⟨⟨_, rfl, ?_⟩, trivial⟩; refine zAr (v := .pointer (some _)) hs 5 rfl sz33 rfl rfl rfl rfl ?_; clear hs; intro w hs
     try simp only [List.set_cons_succ, List.set_cons_zero] at hs
     clear hK; have hK := hs.drop 5; refine zA4 ⟨hK, ?_⟩; refine zA5 19 rfl rfl (fun w hs => zA7 rfl) hK ?_; refine zA5 20 rfl rfl (fun w hs => zA3 (o' := 3) zCf rfl sz2 rfl rfl rfl) hK ?_; refine zA9 [21] ?_; refine ⟨⟨_, rfl, ?_⟩, trivial⟩; refine zAr (v := .int .i64 _) hs 5 rfl sz2 rfl rfl rfl rfl ?_; clear hs; intro w hs
     try simp only [List.set_cons_succ, List.set_cons_zero] at hs
     clear hK; have hK := hs.drop 5; refine zA4 ⟨hK, ?_⟩; refine zA5 22 rfl rfl (fun w hs => zA7 rfl) hK ?_; refine zA5 23 rfl rfl (fun w hs => zA3 (o' := 5) zCf rfl sz3 rfl rfl rfl) hK ?_; refine zA9 [24] ?_; refine ⟨⟨_, rfl, ?_⟩, trivial⟩; refine zAr (v := .int .i64 _) hs 5 rfl sz3 rfl rfl rfl rfl ?_; clear hs; intro w hs
     try simp only [List.set_cons_succ, List.set_cons_zero] at hs
     clear hK; have hK := hs.drop 5; refine zA4 ⟨hK, ?_⟩; refine zAp (by kernel_rfl) ?_; clear hK; refine zA6 ?_; refine zA6 (zA1 ?_); refine zA rfl (zA0 (v := .pointer (some _)) rfl) ?_; refine zA rfl (zA7 rfl) ?_; refine zA rfl (zA3 (o' := 4) zCf rfl sz3 rfl rfl rfl) ?_; refine zA rfl (zA8 uz3 rfl rfl (hs.cellAt 5 rfl rfl)) ?_; refine zA rfl (zAs rfl rfl (c := ((c + 1 : Nat) : Int)) (by omega) (inI (by omega) (by omega))) ?_; refine zA rfl (zA7 rfl) ?_; refine zA rfl (zA3 (o' := 4) zCf rfl sz3 rfl rfl rfl) ?_; refine zAr (v := .int .i64 _) hs 5 rfl sz3 rfl rfl rfl rfl ?_; clear hs; intro w hs
     try simp only [List.set_cons_succ, List.set_cons_zero] at hs
     refine zA4 ?_; refine zA6 ?_; refine zAy zBv hs ?_; intro w tr hK; replace hs := tr _ hs; clear tr; refine zA5 0 rfl rfl (fun w hs => zA0 (v := .pointer (some _)) rfl) hK ?_; refine zA5 1 rfl rfl (fun w hs => zA7 rfl) hK ?_; refine zA5 2 rfl rfl (fun w hs => zA3 (o' := 4) zCf rfl sz3 rfl rfl rfl) hK ?_; refine zA5 3 rfl rfl (fun w hs => zA8 uz3 rfl rfl (hs.cellAt 5 rfl rfl)) hK ?_; refine zA5 4 rfl rfl (fun w hs => zA0 (v := .pointer (some _)) rfl) hK ?_; refine zA5 5 rfl rfl (fun w hs => zA7 rfl) hK ?_; refine zA5 6 rfl rfl (fun w hs => zA3 (o' := 1) zCf rfl sz3 rfl rfl rfl) hK ?_; refine zA5 7 rfl rfl (fun w hs => zA8 uz3 rfl rfl (hs.cellAt 5 rfl rfl)) hK ?_
     refine zA5 8 rfl rfl (fun w hs => zDd rfl rfl) hK ?_; refine zAp (by kernel_rfl) ?_; clear hK; refine zB8 rfl ?_ ?_
     ·
      intro h103; have g103 := of_decide_eq_true h103; refine zA1 ?_; refine zA rfl (zA0 (v := .pointer (some _)) rfl) ?_; refine zAb rfl en23 (snapM_sl (q := q + 1) (c := c + 1) (n := mb.length + fr.length) (mb := mb ++ fr) hM (Mem.closeL (hs.arr [5, 2, 0] 6 (by decide))) hI3 (zBu _ _ _) (by omega) (by omega) hsu1 (by omega) (by omega)) ?_; clear hs; rintro _ w ⟨ks, d3, rfl, hso, hs⟩; refine zA4 (zA6 (zA1 ?_)); refine zA rfl (zA2 (v := .nilIface) rfl) ?_; refine zA4 ?_; refine zAg ?_; refine zBl (v := .nilIface) rfl rfl ?_; obtain ⟨r1, r2, hcs⟩ := hso
      rcases hcs with ⟨rfl, hu3, ha3, hI4⟩ | ⟨rfl, hd3, hn3, hI4⟩
      exact ⟨_, rfl, 0, d3, V1, q + 1, 0, 0, (zB6 ad).symm, ⟨r1.trans hsr, by omega, .inl ⟨rfl, hu3, fun e => ha3 (har2 e), rfl, rfl, .inr ⟨by omega, rfl, rfl, hI4⟩⟩⟩, hs⟩; exact ⟨_, rfl, 0, d3, V1, q + 1, c + 1, _, (zB6 ad).symm, ⟨r1.trans hsr, by omega, .inr (.inl ⟨rfl, hd3, fun e => hn3 (har2 e), hI4⟩)⟩, hs⟩
     ·
      intro h103; have g103 := of_decide_eq_false h103; refine zAf ?_; refine zA6 (zA1 ?_); refine zA rfl (zA2 (v := .nilIface) rfl) ?_; refine zA4 ?_; refine zAg ?_; refine zBl (v := .nilIface) rfl rfl ?_; exact ⟨_, rfl, 0, d2, V1, q + 1, c + 1, mb.length + fr.length, (zB6 ad).symm, ⟨hsr, by omega, .inl ⟨rfl, hup2, har2, rfl, rfl, .inl ⟨by omega, rfl, rfl, hI3⟩⟩⟩, Mem.closeL (hs.arr [5, 2, 0] 6 (by decide))⟩
    ·
     refine zA rfl (zA8 uz3 rfl rfl (hs.cellAt 5 rfl rfl)) ?_; clear hK; have hK := hs.drop 5; refine zA4 ⟨hK, ?_⟩; refine zA5 15 rfl rfl (fun w hs => zAs rfl rfl (c := ((mb.length + fr.length : Nat) : Int)) (by omega) (inI (by omega) (by omega))) hK ?_; refine zA9 [7] ?_; refine ⟨⟨_, rfl, ?_⟩, trivial⟩; refine zA rfl (zA8 uz2 rfl rfl (hs.cellAt 5 rfl rfl)) ?_; clear hK; have hK := hs.drop 5; refine zA4 ⟨hK, ?_⟩; refine zA5 8 rfl rfl (fun w hs => zAs rfl rfl (c := ((q + 1 : Nat) : Int)) (by omega) (inI (by omega) (by omega))) hK ?_; refine zA5 16 rfl rfl (fun w hs => zA7 rfl) hK ?_; refine zA5 17 rfl rfl (fun w hs => zA3 (o' := 2) zCf rfl sz33 rfl rfl rfl) hK ?_; refine zA9 [18] ?_
     refine ⟨⟨_, rfl, ?_⟩, trivial⟩; refine zAr (v := .pointer (some _)) hs 5 rfl sz33 rfl rfl rfl rfl ?_; clear hs; intro w hs
     try simp only [List.set_cons_succ, List.set_cons_zero] at hs
     clear hK; have hK := hs.drop 5; refine zA4 ⟨hK, ?_⟩; refine zA5 19 rfl rfl (fun w hs => zA7 rfl) hK ?_; refine zA5 20 rfl rfl (fun w hs => zA3 (o' := 3) zCf rfl sz2 rfl rfl rfl) hK ?_; refine zA9 [21] ?_; refine ⟨⟨_, rfl, ?_⟩, trivial⟩; refine zAr (v := .int .i64 _) hs 5 rfl sz2 rfl rfl rfl rfl ?_; clear hs; intro w hs
     try simp only [List.set_cons_succ, List.set_cons_zero] at hs
     clear hK; have hK := hs.drop 5; refine zA4 ⟨hK, ?_⟩; refine zA5 22 rfl rfl (fun w hs => zA7 rfl) hK ?_; refine zA5 23 rfl rfl (fun w hs => zA3 (o' := 5) zCf rfl sz3 rfl rfl rfl) hK ?_; refine zA9 [24] ?_; refine ⟨⟨_, rfl, ?_⟩, trivial⟩; refine zAr (v := .int .i64 _) hs 5 rfl sz3 rfl rfl rfl rfl ?_; clear hs; intro w hs
     try simp only [List.set_cons_succ, List.set_cons_zero] at hs
     clear hK; have hK := hs.drop 5; refine zA4 ⟨hK, ?_⟩; refine zAp (by kernel_rfl) ?_; clear hK; refine zA6 ?_; refine zA6 (zA1 ?_); refine zA rfl (zA0 (v := .pointer (some _)) rfl) ?_; refine zA rfl (zA7 rfl) ?_; refine zA rfl (zA3 (o' := 4) zCf rfl sz3 rfl rfl rfl) ?_; refine zA rfl (zA8 uz3 rfl rfl (hs.cellAt 5 rfl rfl)) ?_; refine zA rfl (zAs rfl rfl (c := ((c + 1 : Nat) : Int)) (by omega) (inI (by omega) (by omega))) ?_; refine zA rfl (zA7 rfl) ?_; refine zA rfl (zA3 (o' := 4) zCf rfl sz3 rfl rfl rfl) ?_; refine zAr (v := .int .i64 _) hs 5 rfl sz3 rfl rfl rfl rfl ?_; clear hs; intro w hs
     try simp only [List.set_cons_succ, List.set_cons_zero] at hs
     refine zA4 ?_; refine zA6 ?_; refine zAy zBv hs ?_; intro w tr hK; replace hs := tr _ hs; clear tr; refine zA5 0 rfl rfl (fun w hs => zA0 (v := .pointer (some _)) rfl) hK ?_; refine zA5 1 rfl rfl (fun w hs => zA7 rfl) hK ?_; refine zA5 2 rfl rfl (fun w hs => zA3 (o' := 4) zCf rfl sz3 rfl rfl rfl) hK ?_; refine zA5 3 rfl rfl (fun w hs => zA8 uz3 rfl rfl (hs.cellAt 5 rfl rfl)) hK ?_; refine zA5 4 rfl rfl (fun w hs => zA0 (v := .pointer (some _)) rfl) hK ?_; refine zA5 5 rfl rfl (fun w hs => zA7 rfl) hK ?_; refine zA5 6 rfl rfl (fun w hs => zA3 (o' := 1) zCf rfl sz3 rfl rfl rfl) hK ?_; refine zA5 7 rfl rfl (fun w hs => zA8 uz3 rfl rfl (hs.cellAt 5 rfl rfl)) hK ?_
     refine zA5 8 rfl rfl (fun w hs => zDd rfl rfl) hK ?_; refine zAp (by kernel_rfl) ?_; clear hK; refine zB8 rfl ?_ ?_
     ·
      intro h103; have g103 := of_decide_eq_true h103; refine zA1 ?_; refine zA rfl (zA0 (v := .pointer (some _)) rfl) ?_; refine zAb rfl en23 (snapM_sl (q := q + 1) (c := c + 1) (n := mb.length + fr.length) (mb := mb ++ fr) hM (Mem.closeL (hs.arr [5, 2, 0] 6 (by decide))) hI3 (zBu _ _ _) (by omega) (by omega) hsu1 (by omega) (by omega)) ?_; clear hs; rintro _ w ⟨ks, d3, rfl, hso, hs⟩; refine zA4 (zA6 (zA1 ?_)); refine zA rfl (zA2 (v := .nilIface) rfl) ?_; refine zA4 ?_; refine zAg ?_; refine zBl (v := .nilIface) rfl rfl ?_; obtain ⟨r1, r2, hcs⟩ := hso
      rcases hcs with ⟨rfl, hu3, ha3, hI4⟩ | ⟨rfl, hd3, hn3, hI4⟩
      exact ⟨_, rfl, 0, d3, V1, q + 1, 0, 0, (zB6 ad).symm, ⟨r1.trans hsr, by omega, .inl ⟨rfl, hu3, fun e => ha3 (har2 e), rfl, rfl, .inr ⟨by omega, rfl, rfl, hI4⟩⟩⟩, hs⟩; exact ⟨_, rfl, 0, d3, V1, q + 1, c + 1, _, (zB6 ad).symm, ⟨r1.trans hsr, by omega, .inr (.inl ⟨rfl, hd3, fun e => hn3 (har2 e), hI4⟩)⟩, hs⟩
     ·
      intro h103; have g103 := of_decide_eq_false h103; refine zAf ?_; refine zA6 (zA1 ?_); refine zA rfl (zA2 (v := .nilIface) rfl) ?_; refine zA4 ?_; refine zAg ?_; refine zBl (v := .nilIface) rfl rfl ?_; exact ⟨_, rfl, 0, d2, V1, q + 1, c + 1, mb.length + fr.length, (zB6 ad).symm, ⟨hsr, by omega, .inl ⟨rfl, hup2, har2, rfl, rfl, .inl ⟨by omega, rfl, rfl, hI3⟩⟩⟩, Mem.closeL (hs.arr [5, 2, 0] 6 (by decide))⟩
   ·
    refine zA1 ?_; refine zA rfl (zA0 (v := zAq ad _) rfl) ?_; refine zA rfl (zAt (ad := ad) rfl) ?_; refine zA4 ?_; refine zBb rfl (rfl) ?_; refine zAy zBv (hs.drop 0) ?_; intro w tr hK; replace hs := tr _ hs; clear tr; refine zA5 0 rfl rfl (fun w hs => zA0 (v := .pointer (some _)) rfl) hK ?_; refine zA5 1 rfl rfl (fun w hs => zA7 rfl) hK ?_; refine zA5 2 rfl rfl (fun w hs => zA3 (o' := 0) zCf rfl sz25 rfl rfl rfl) hK ?_; refine zA5 3 rfl rfl (fun w hs => zA8 uz25 rfl rfl (hs.cellAt 4 rfl rfl)) hK ?_; refine zA5 4 rfl rfl (fun w hs => zA0 (v := .pointer (some _)) rfl) hK ?_; refine zA5 5 rfl rfl (fun w hs => zA7 rfl) hK ?_
    refine zA5 6 rfl rfl (fun w hs => zA3 (o' := 5) zCf rfl sz3 rfl rfl rfl) hK ?_; refine zA5 7 rfl rfl (fun w hs => zA8 uz3 rfl rfl (hs.cellAt 4 rfl rfl)) hK ?_; refine zA9 [8] ?_; refine ⟨⟨_, rfl, ?_⟩, trivial⟩; refine zAb rfl en18 (cut_sl hM.toK hs (by omega) mtN (m := ((mb.length : Nat) : Int)) (inI (by omega) (by omega)) (Dk.cut_down hdn2 mtN _)) ?_; clear hs; rintro _ w ⟨rfl, hs⟩; clear hK; have hK := hs.drop 0; refine zA4 ⟨hK, ?_⟩; refine zAp (by kernel_rfl) ?_; clear hK; refine zA6 ?_; refine zA6 (zA1 ?_); refine zA rfl (zA0 (v := zAq ad _) rfl) ?_; refine zA rfl (zAt (ad := ad) rfl) ?_; refine zA4 ?_; refine zBb rfl (rfl) ?_; refine zA6 (zA1 ?_)
    refine zA rfl (zA0 (v := zAq ad _) rfl) ?_; refine zA rfl (zA2 (v := zAq ad _) rfl) ?_; refine zA4 ?_; refine zAg ?_; refine zBl (v := zAq ad _) rfl rfl ?_; exact ⟨_, rfl, 110, d2, V, q, c, mb.length, rfl, ⟨hsr, by omega, .inr (.inr ⟨rfl, hdn2, hne2, hcr2 (hs.openD).1⟩)⟩, Mem.closeL (hs.arr [5, 3, 0] 6 (by decide))⟩
end Go.Proofs.YtdkgdjnbpjjfmaaGreatDoor
namespace Go.Proofs.YtdkgdjnbpjjfmaaGreatDoor
set_option linter.all false
open Go.RowKit
attribute [local irreducible] zAq
variable {g w : World} {L M : List HP} {ad : Nat → Addr} {p : Nat}

def mkM (id base : Nat) (fin : Int) (l : List Pr) : Mf := ⟨id, base, fin, 0, l, [(objNm id bData base, 0, 0), (objNm id bMarks base, 0, 0)]⟩
theorem crc_none : zFo 0 [] = 0 := by decide +kernel
set_option maxRecDepth 100000 in
set_option maxHeartbeats 2000000 in
theorem make_sl (hs : Mem g w L) {id base : Nat} {fin : Int} {a : Option Addr} {n c : Nat} {l : List Pr} (hr : RdK g L 2 (.slice a n c) (l.map prL)) (hn : n = l.length) (hlen : 1 ≤ l.length ∧ l.length ≤ 1000000) (hid : id ≤ 2147483647) (hb : base ≤ 1099511627776) (hF : mfF (mkM id base fin l) = (0, none)) :
    Calls Tryz.prog 78 #[.int .i64 id, .int .i64 base, .int .i64 fin, .int .i64 0, .slice a n c, .slice none 0 0, .slice none 0 0] w (Ret fun v w' => ∃ s1 s2 : SA, v = .tuple #[.agg (mfL (mkM id base fin l) s1 s2).toArray, fltV (0, none)] ∧ Mem g w' (mfP (mkM id base fin l) s1 s2 ++ L)) := by
  subst hn; refine zAo Tryz.func78 rfl rfl ?_
  skip
  refine zA6 (zA1 ?_); refine zBd hs rfl ze39 ?_; clear hs; intro b14 w hs
  try simp only [List.set_cons_succ, List.set_cons_zero] at hs
  refine zBd hs rfl ze57 ?_; clear hs; intro b15 w hs
  try simp only [List.set_cons_succ, List.set_cons_zero] at hs
  refine zA4 (zA6 (zA1 ?_)); refine zA rfl (zA0 (v := .int .i64 _) rfl) ?_; refine zA rfl (zA0 (v := .int .i64 _) rfl) ?_; refine zA rfl (zA0 (v := .int .i64 _) rfl) ?_; refine zA rfl (zA0 (v := .int .i64 _) rfl) ?_; refine zA rfl (zA0 (v := .slice _ _ _) rfl) ?_; refine zAb rfl en117 (copyPr_sl hs hr.cons.cons rfl hlen) ?_; clear hs; rintro _ w ⟨s1, rfl, hs⟩; refine zA rfl (zC3 (cs := [.int .i64 id, .int .i64 base, .int .i64 fin, .int .i64 0, .slice s1.1 l.length s1.2, .slice none 0 0]) zBx ze39 pl39 rfl) ?_; refine zBd hs rfl ze39 ?_; clear hs; intro b16 w hs
  try simp only [List.set_cons_succ, List.set_cons_zero] at hs
  refine zAn hs 0 rfl rfl rfl zDf rfl rfl ?_; clear hs; intro w hs
  try simp only [List.set_cons_succ, List.set_cons_zero] at hs
  refine zA4 (zA6 (zA1 ?_)); refine zA rfl (zA0 (v := .int .i64 _) rfl) ?_; refine zA rfl (zA0 (v := .int .i64 _) rfl) ?_; refine zAb rfl en118 (objNm_sl hs id base bData hid hb (by decide) (by decide)) ?_; clear hs; rintro _ w ⟨rfl, hs⟩; refine zA rfl (zA0 (v := .slice _ _ _) rfl) ?_; refine zA rfl (zB2 zC0 rfl) ?_; refine zA rfl (zA0 (v := .slice _ _ _) rfl) ?_; refine zAb rfl en119 (hs.callsE (refSum_any (w := w) (b := .slice none 0 0) (l := []) (seqV.nil w) (by simp))) ?_; clear hs; rintro _ w ⟨rfl, hs⟩; rw [crc_none]; refine zA rfl (zB3 ([.string (objNm id bData base), .int .i64 0, .int .u32 0]) zCl zDi zDt rfl (by simp [Value.cells]) rfl rfl) ?_
  refine zA rfl (zA0 (v := .int .i64 _) rfl) ?_; refine zA rfl (zA0 (v := .int .i64 _) rfl) ?_; refine zAb rfl en118 (objNm_sl hs id base bMarks hid hb (by decide) (by decide)) ?_; clear hs; rintro _ w ⟨rfl, hs⟩; refine zA rfl (zA0 (v := .slice _ _ _) rfl) ?_; refine zA rfl (zB2 zC0 rfl) ?_; refine zA rfl (zA0 (v := .slice _ _ _) rfl) ?_; refine zAb rfl en119 (hs.callsE (refSum_any (w := w) (b := .slice none 0 0) (l := []) (seqV.nil w) (by simp))) ?_; clear hs; rintro _ w ⟨rfl, hs⟩; rw [crc_none]; refine zA rfl (zB3 ([.string (objNm id bMarks base), .int .i64 0, .int .u32 0]) zCl zDi zDt rfl (by simp [Value.cells]) rfl rfl) ?_
  refine lw_build2 hs rfl (r1 := obL (objNm id bData base, 0, 0)) (r2 := obL (objNm id bMarks base, 0, 0)) zBp zsOb rfl rfl (fill_ob _ _ 0 0 0 0) (by decide) (by decide) ?_; clear hs; intro b41 w hs; replace hs := hs.asRows 0 rfl (m := 2) (k := 3) (rows := [obL (objNm id bData base, 0, 0), obL (objNm id bMarks base, 0, 0)]) rfl rfl (obL_rows [(objNm id bData base, 0, 0), (objNm id bMarks base, 0, 0)]); simp only [List.set_cons_zero] at hs; refine zA rfl (zA3 (o' := 5) zBx rfl zCt rfl rfl rfl) ?_; refine zAr (v := .slice _ _ _) hs 1 rfl zCt rfl rfl rfl rfl ?_; clear hs; intro w hs
  try simp only [List.set_cons_succ, List.set_cons_zero] at hs
  refine zA4 (zA6 (zA1 ?_)); refine zA rfl (zBc hs 1 rfl zBx zDf rfl) ?_; refine zAb rfl en120 (rManifest_sl (m := mkM id base fin l) (e := s1) (o := (some ⟨b41, 0, none⟩, 2)) hs (MfR.own 2 0 rfl rfl) (by simp [mkM])) ?_; clear hs; rintro _ w ⟨rfl, hs⟩; rw [hF]; refine zBd hs rfl ze57 ?_; clear hs; intro b17 w hs
  try simp only [List.set_cons_succ, List.set_cons_zero] at hs
  refine zAn hs 0 rfl rfl rfl zFx rfl rfl ?_; clear hs; intro w hs
  try simp only [List.set_cons_succ, List.set_cons_zero] at hs
  refine zA4 ?_; refine zA6 ?_; refine zA6 (zA1 ?_); refine zA rfl (zA3 (o' := 0) uz57 rfl sz3 rfl rfl rfl) ?_; refine zA rfl (zA8 uz3 rfl rfl (hs.cellAt 0 rfl rfl)) ?_; refine zA rfl (zDh rfl rfl) ?_; refine zA4 ?_; refine zAx rfl (rfl) ?_; refine zAf ?_; refine zA6 ?_; refine zAy zBv ((hs.drop 5).drop 4) ?_; intro w tr hK; replace hs := tr _ hs; clear tr; refine zA5 0 rfl rfl (fun w hs => zBc hs 2 rfl zBx zDf rfl) hK ?_; refine zA9 [1] ?_; refine ⟨⟨_, rfl, ?_⟩, trivial⟩; refine zAb rfl en55 (none_sl hs) ?_; clear hs; rintro _ w ⟨rfl, hs⟩; clear hK; have hK := (hs.drop 5).drop 4; refine zA4 ⟨hK, ?_⟩; refine zA9 [2] ?_; refine ⟨⟨_, rfl, ?_⟩, trivial⟩
  refine zAn hs 5 rfl rfl rfl zDf rfl rfl ?_; clear hs; intro w hs
  try simp only [List.set_cons_succ, List.set_cons_zero] at hs
  clear hK; have hK := (hs.drop 5).drop 4; refine zA4 ⟨hK, ?_⟩; refine zA9 [3] ?_; refine ⟨⟨_, rfl, ?_⟩, trivial⟩; refine zAn hs 4 rfl rfl rfl zFx rfl rfl ?_; clear hs; intro w hs
  try simp only [List.set_cons_succ, List.set_cons_zero] at hs
  clear hK; have hK := (hs.drop 5).drop 4; refine zA4 ⟨hK, ?_⟩; refine zAp (by kernel_rfl) ?_; clear hK; refine zAg ?_; refine zFd [(.cell 14 39, .agg _), (.cell 15 57, .agg _)] rfl ⟨⟨_, rfl, zBq hs 5 rfl zBx zDf⟩, ⟨_, rfl, zBq hs 4 rfl uz57 zFx⟩, trivial⟩ ?_; exact ⟨_, rfl, s1, (some ⟨b41, 0, none⟩, 2), rfl, hs.arr [3, 1] 6 (by decide)⟩
end Go.Proofs.YtdkgdjnbpjjfmaaGreatDoor
namespace Go.Proofs.YtdkgdjnbpjjfmaaGreatDoor
set_option linter.all false
open Go.RowKit
attribute [local irreducible] zAq eV
variable {g w : World} {L M : List HP} {ad : Nat → Addr}

theorem one17 : ∀ id < 12, mfF (oneM id (10 * id)) = (0, none) := by decide +kernel
theorem one17_sl (hs : Mem g w L) (id : Nat) (hid : id < 12) : Calls Tryz.prog 37 #[.int .i64 id] w (Ret fun v w' => ∃ s1 s2 : SA, v = .agg (mfL (oneM id (10 * id)) s1 s2).toArray ∧ Mem g w' (mfP (oneM id (10 * id)) s1 s2 ++ L)) := by
  refine zAo Tryz.func37 rfl rfl ?_
  skip
  refine zA6 (zA1 ?_); refine zBd hs rfl ze39 ?_; clear hs; intro b2 w hs
  try simp only [List.set_cons_succ, List.set_cons_zero] at hs
  refine zA4 (zA6 (zA1 ?_)); refine zA rfl (zA0 (v := .int .i64 _) rfl) ?_; refine zA rfl (zA0 (v := .int .i64 _) rfl) ?_; refine zA rfl (zE3 rfl rfl (c := ((10 * id : Nat) : Int)) (by omega) (inI (by omega) (by omega))) ?_; refine zA rfl (zA0 (v := .int .i64 _) rfl) ?_; refine zA rfl (zE3 rfl rfl (c := ((10 * id : Nat) : Int)) (by omega) (inI (by omega) (by omega))) ?_; refine zA rfl (zAs rfl rfl (c := ((10 * id : Nat) : Int) + 5) (by omega) (inI (by omega) (by omega))) ?_; refine zA rfl (zA0 (v := .int .i64 _) rfl) ?_; refine zA rfl (zE3 rfl rfl (c := ((10 * id : Nat) : Int)) (by omega) (inI (by omega) (by omega))) ?_
  refine zA rfl (zB3 ([.int .i64 1, .int .i64 ((10 * id : Nat) : Int)]) zDk ze141 pl141 rfl (by simp [Value.cells]) rfl rfl) ?_; refine zAz hs rfl (row := prL (1, ((10 * id : Nat) : Int))) zCx zsPr rfl (zFq _ _) (by decide) (by decide) ?_; clear hs; intro b15 w hs; refine zAb rfl en78 (make_sl hs (id := id) (base := 10 * id) (fin := ((10 * id : Nat) : Int) + 5) (l := [(1, ((10 * id : Nat) : Int))]) (RdK.one 0 rfl rfl) rfl (by simp) (by omega) (by omega) (one17 id hid)) ?_; clear hs; rintro _ w ⟨s1, s2, rfl, hs⟩; refine zA rfl (zA0 (v := .tuple _) rfl) ?_; refine zA rfl (zAa (v := .agg _) rfl rfl) ?_; refine zA rfl (zAa (v := .agg _) rfl rfl) ?_; refine zBd hs rfl ze39 ?_; clear hs
  intro b3 w hs
  try simp only [List.set_cons_succ, List.set_cons_zero] at hs
  refine zBd hs rfl ze57 ?_; clear hs; intro b4 w hs
  try simp only [List.set_cons_succ, List.set_cons_zero] at hs
  refine zAn hs 1 rfl rfl rfl zDf rfl rfl ?_; clear hs; intro w hs
  try simp only [List.set_cons_succ, List.set_cons_zero] at hs
  refine zAn hs 0 rfl rfl rfl zFx rfl rfl ?_; clear hs; intro w hs
  try simp only [List.set_cons_succ, List.set_cons_zero] at hs
  refine zA4 (zA6 (zA1 ?_)); refine zA rfl (zBc hs 1 rfl zBx zDf rfl) ?_; refine zAn hs 5 rfl rfl rfl zDf rfl rfl ?_; clear hs; intro w hs
  try simp only [List.set_cons_succ, List.set_cons_zero] at hs
  refine zA4 ?_; refine zAg ?_; refine zFd [(.cell 2 39, .agg _)] rfl ⟨⟨_, rfl, zBq hs 5 rfl zBx zDf⟩, trivial⟩ ?_; exact ⟨_, rfl, s1, s2, rfl, hs.arr [2, 3] 6 (by decide)⟩
def kdz (z : Int) : Nat := (IntKind.i64.wrap (z.tdiv 4) % ((4 : Nat) : Int)).toNat + 1
def idz (z : Int) : Nat := (z % ((4 : Nat) : Int)).toNat + 4 * (IntKind.i64.wrap (z.tdiv 16) % ((3 : Nat) : Int)).toNat
def enz (z : Int) : En := ((kdz z : Nat), oneM (idz z) (10 * idz z))
theorem idz_lt (z : Int) : idz z < 12 := by unfold idz; omega
theorem kdz_lt (z : Int) : 1 ≤ kdz z ∧ kdz z ≤ 4 := by unfold kdz; omega
theorem enz_ok (z : Int) : EnOk (enz z) := by
  have h := kdz_lt z; refine ⟨one17 _ (idz_lt z), by simp only [enz]; omega, by simp only [enz]; omega, fun o ho => ?_⟩; simp only [enz, oneM, mkM, List.mem_cons, List.not_mem_nil, or_false] at ho
  rcases ho with rfl | rfl <;> exact (by decide : (0 : Nat) < 4294967296)
theorem enz_obs (z : Int) : (enz z).2.obs.length ≤ 1000000 := by simp [enz, oneM, mkM]
theorem entry17_sl (hs : Mem g w L) (z : Int) : Calls Tryz.prog 12 #[.int .i64 z] w (Ret fun v w' => ∃ s1 s2 : SA, v = .agg (.int .i64 (enz z).1 :: mfL (enz z).2 s1 s2).toArray ∧ Mem g w' (mfP (enz z).2 s1 s2 ++ L)) := by
  have h0 := kdz_lt z; refine zAo Tryz.func12 rfl rfl ?_
  skip
  refine zA6 (zA1 ?_); refine zBd hs rfl ze41 ?_; clear hs; intro b2 w hs
  try simp only [List.set_cons_succ, List.set_cons_zero] at hs
  refine zA4 (zA6 (zA1 ?_)); refine zA rfl (zA0 (v := .int .i64 _) rfl) ?_; refine zA rfl (run_quo rfl rfl (by decide)) ?_; refine zAb rfl en17 (numberL_sl hs (IntKind.i64.wrap (z.tdiv 4)) 4 (by decide)) ?_; clear hs; rintro _ w ⟨rfl, hk4, hs⟩; refine zA rfl (zAs rfl rfl (c := ((kdz z : Nat) : Int)) (by unfold kdz; omega) (inI (by omega) (by omega))) ?_; refine zA rfl (zA0 (v := .int .i64 _) rfl) ?_; refine zAb rfl en17 (numberL_sl hs z 4 (by decide)) ?_; clear hs; rintro _ w ⟨rfl, hi4, hs⟩; refine zA rfl (zA0 (v := .int .i64 _) rfl) ?_; refine zA rfl (run_quo rfl rfl (by decide)) ?_; refine zAb rfl en17 (numberL_sl hs (IntKind.i64.wrap (z.tdiv 16)) 3 (by decide)) ?_; clear hs
  rintro _ w ⟨rfl, hi3, hs⟩; refine zA rfl (zE3 rfl rfl (c := ((4 * (IntKind.i64.wrap (z.tdiv 16) % ((3 : Nat) : Int)).toNat : Nat) : Int)) (by omega) (inI (by omega) (by omega))) ?_; refine zA rfl (zAs rfl rfl (c := ((idz z : Nat) : Int)) (by unfold idz; omega) (inI (by have := idz_lt z; omega) (by have := idz_lt z; omega))) ?_; refine zAb rfl en37 (one17_sl hs (idz z) (idz_lt z)) ?_; clear hs; rintro _ w ⟨s1, s2, rfl, hs⟩; refine zA rfl (zG9 (k := (kdz z : Nat)) (m := oneM (idz z) (10 * idz z)) (e := s1) (o := s2) zEa ze41 pl41 rfl rfl) ?_; refine zAn hs 2 rfl rfl rfl zEq rfl rfl ?_; clear hs; intro w hs
  try simp only [List.set_cons_succ, List.set_cons_zero] at hs
  refine zA4 ?_; refine zAg ?_; refine zFd [(.cell 2 41, .agg _)] rfl ⟨⟨_, rfl, zBq hs 2 rfl zEa zEq⟩, trivial⟩ ?_; exact ⟨_, rfl, s1, s2, rfl, hs.arr [0, 1] 3 (by decide)⟩
end Go.Proofs.YtdkgdjnbpjjfmaaGreatDoor
namespace Go.Proofs.YtdkgdjnbpjjfmaaGreatDoor
set_option linter.all false
open Go.RowKit
attribute [local irreducible] zAq eV
variable {g w : World} {L M : List HP} {ad : Nat → Addr} {p d pv ev : Nat} {dk : Dk} {f : ByteArray → Option (List UInt8)} {V V0 U : Vw} {q q0 r c n : Nat} {es : List En}

theorem runs_props : ∀ {es : List En} {V U : Vw}, runs V es = some U → V.ok → V.sums → (∀ e ∈ es, EnOk e) → U.ok ∧ U.sums ∧ U.length ≤ V.length + es.length
  | [], V, U, h, ho, hu, _ => by cases h; exact ⟨ho, hu, Nat.le_refl _⟩
  | e :: es, V, U, h, ho, hu, hE => by
    simp only [runs] at h
    split at h
    · have h1 := runs_props h (Vw.apply_ok ho e.1 e.2) (Vw.apply_sums hu (hE e (List.mem_cons_self ..)).2.2.2) fun x hx => hE x (List.mem_cons_of_mem _ hx)
      have h2 := V.apply_len e.1 e.2; exact ⟨h1.1, h1.2.1, by simp only [List.length_cons]; omega⟩
    · cases h
/-- What the disk has of a log. -/
structure LgSt (f : ByteArray → Option (List UInt8)) (V0 : Vw) (q0 : Nat) (es : List En) (V : Vw) : Prop where
  snap : Snp f V0 q0
  file : f mtN = some (frames q0 es)
  run : runs V0 es = some V
  ok0 : V0.ok
  sum0 : V0.sums
  len0 : V0.length ≤ q0
  ens : ∀ e ∈ es, EnOk e
theorem LgSt.props (h : LgSt f V0 q0 es V) : V.ok ∧ V.sums ∧ V.length ≤ q0 + es.length := by
  have h1 := runs_props h.run h.ok0 h.sum0 h.ens; have := h.len0; exact ⟨h1.1, h1.2.1, by omega⟩
theorem Snp.upd (h : Snp f V q) (v : List UInt8) : Snp (zDq f mtN v) V q := by
  unfold Snp at *
  rw [zDc _ _ (Ne.symm mt_sn)]; exact h
theorem LgSt.app (h : LgSt f V0 q0 es V) {e : En} (hE : EnOk e) (hap : (V.apply e.1 e.2).1 = (0, none)) : LgSt (zDq f mtN (frames q0 es ++ frame (q0 + es.length + 1) e)) V0 q0 (es ++ [e]) (V.apply e.1 e.2).2 :=
  ⟨h.snap.upd _, by rw [zBu, zF], runs_snoc h.run hap, h.ok0, h.sum0, h.len0, fun x hx => by
    rcases List.mem_append.1 hx with hx | hx
    · exact h.ens x hx
    · simp only [List.mem_cons, List.not_mem_nil, or_false] at hx; subst hx; exact hE⟩
theorem LgSt.shot (h : LgSt f V0 q0 es V) : LgSt (zDq (zDq f snN (zBt (snapB (q0 + es.length) V))) mtN []) V (q0 + es.length) [] V := by
  have hp := h.props; exact ⟨.inr (by rw [zDc _ _ (Ne.symm mt_sn), zBu]), by rw [zBu]; rfl, rfl, hp.1, hp.2.1, hp.2.2, fun e he => (by cases he)⟩
theorem LgSt.ent (h : LgSt f V0 q0 es V) (hq : q0 + es.length ≤ 32) : Ent V0 q0 (frames q0 es) V (q0 + es.length) es.length (frames q0 es).length := by
  have hl := zDl es q0 h.ens; have h1 := Ent.frames (tail := []) (W := V) (r := q0 + es.length) (c := 0) (n := 0) h.run h.ens (by rw [List.append_nil]; omega) (by omega) (.none (.inl rfl)); rw [List.append_nil, Nat.zero_add, Nat.zero_add] at h1; exact h1
/-- A log that has so many entries, so many of them in its file. -/
def LgW (f : ByteArray → Option (List UInt8)) (q c n : Nat) (V : Vw) : Prop := ∃ V0 q0 es, LgSt f V0 q0 es V ∧ q = q0 + es.length ∧ c = es.length ∧ n = (frames q0 es).length
theorem LgW.props (h : LgW f q c n V) : V.ok ∧ V.sums ∧ V.length ≤ q ∧ c ≤ q ∧ n ≤ 6021 * c := by
  obtain ⟨V0, q0, es, h, rfl, rfl, rfl⟩ := h; have h1 := h.props; exact ⟨h1.1, h1.2.1, h1.2.2, by omega, zDl es q0 h.ens⟩
/-- A log on a disk that has nothing. -/
theorem LgW.zero : LgW (zDq (fun _ => none) mtN []) 0 0 0 [] := ⟨[], 0, [], ⟨.inl ⟨by rw [zDc _ _ (Ne.symm mt_sn)], rfl, rfl⟩, by rw [zBu]; rfl, rfl, Vw.ok_nil, (fun x hx => by cases hx), Nat.le_refl _, (fun e he => by cases he)⟩, rfl, rfl, rfl⟩
theorem open0_sl (hM : ErrM ad g) {rm : Nat} (hrm : rm ≤ 4194304) (hs : Mem g w (zBz d (Dk.empty rm) :: L)) (hev : 1 ≤ ev ∧ ev ≤ 4096) :
    Calls Tryz.prog 10 #[.pointer (some ⟨d, 0, none⟩), .int .i64 (ev : Nat)] w (Ret fun v w' => ∃ p dk2, v = .tuple #[.pointer (some ⟨p, 0, none⟩), .nilIface] ∧ dk2.armed = 0 ∧ dk2.room = rm ∧ dk2.calls ≤ 4 ∧ LgI (zDq (fun _ => none) mtN []) dk2 ∧ Mem g w' (LogC p d ev [] 0 0 0 :: zBz d dk2 :: L)) := by
  refine (openM_sl hM hs (RawI.start hrm) rfl (by simp [Dk.empty]) hev (V0 := []) (q0 := 0) (mb := []) (V := []) (q := 0) (c := 0) (n := 0) (.inl ⟨rfl, rfl, rfl⟩) Vw.ok_nil (fun x hx => by cases hx) (by simp) (.inr ⟨rfl, rfl⟩) (by simp) (.none (.inl rfl)) (by decide)).mono ?_; rintro e w' ⟨v, rfl, p, dk2, rfl, h1, h2, h3, h4, h5⟩; exact ⟨_, rfl, p, dk2, rfl, h1, h2, by simpa [Dk.empty] using h3, h4, h5⟩
/-- An Append while the power is there. -/
def AppU (f : ByteArray → Option (List UInt8)) (dk : Dk) (ev : Nat) (V : Vw) (q c n : Nat) (k : Int) (x : Mf) (f' : ByteArray → Option (List UInt8)) (dk2 : Dk) (q' c' n' : Nat) : Prop :=
  LgI f' dk2 ∧ dk2.armed = 0 ∧ dk2.room = dk.room ∧ dk2.calls ≤ dk.calls + 9 ∧ LgW f' q' c' n' (V.apply k x).2 ∧
  ((V.apply k x).1.1 ≠ 0 ∧ q' = q ∧ c' = c ∧ n' = n ∧ f' = f ∧ dk2 = dk ∨ (V.apply k x).1 = (0, none) ∧ q' = q + 1 ∧ (c + 1 < ev ∧ c' = c + 1 ∧ n' = n + (frame (q + 1) (k, x)).length ∨ ev ≤ c + 1 ∧ c' = 0 ∧ n' = 0))
/-- What stands between two steps of a statement. -/
structure LgK (f : ByteArray → Option (List UInt8)) (dk : Dk) (q c n : Nat) (V : Vw) (K B : Nat) : Prop where
  w : LgW f q c n V
  I : LgI f dk
  a : dk.armed = 0
  r : dk.room = 1048576
  q : q ≤ K
  cl : dk.calls ≤ B
theorem LgK.mono {K B K2 B2 : Nat} (h : LgK f dk q c n V K B) (h1 : K ≤ K2) (h2 : B ≤ B2) : LgK f dk q c n V K2 B2 := ⟨h.w, h.I, h.a, h.r, Nat.le_trans h.q h1, Nat.le_trans h.cl h2⟩
theorem LgK.app {K B : Nat} (h : LgK f dk q c n V K B) {k : Int} {x : Mf} {f' : ByteArray → Option (List UInt8)} {dk2 : Dk} {q' c' n' : Nat} (hU : AppU f dk ev V q c n k x f' dk2 q' c' n') : LgK f' dk2 q' c' n' (V.apply k x).2 (K + 1) (B + 9) := by
  obtain ⟨h1, h2, h3, h4, h5, h6⟩ := hU; have hq := h.q; have hc := h.cl; refine ⟨h5, h1, h2, h3.trans h.r, ?_, by omega⟩
  rcases h6 with ⟨_, h7, _⟩ | ⟨_, h7, _⟩
  · omega
  · omega
theorem LgK.next {K B : Nat} (h : LgK f dk q c n V K B) {dk2 : Dk} (h1 : dk2.armed = 0) (h2 : dk2.room = dk.room) (h3 : dk2.calls ≤ dk.calls + 4) (h4 : LgI f dk2) : LgK f dk2 q c n V K (B + 4) := ⟨h.w, h4, h1, h2.trans h.r, h.q, by have := h.cl; omega⟩
theorem LgK.shot {K B : Nat} (h : LgK f dk q c n V K B) {f' : ByteArray → Option (List UInt8)} {dk2 : Dk} (h0 : LgI f' dk2) (h1 : dk2.armed = 0) (h2 : dk2.room = dk.room) (h3 : dk2.calls ≤ dk.calls + 7) (h4 : LgW f' q 0 0 V) : LgK f' dk2 q 0 0 V K (B + 7) := ⟨h4, h0, h1, h2.trans h.r, h.q, by have := h.cl; omega⟩
theorem LgK.zero {dk : Dk} (h1 : dk.armed = 0) (h2 : dk.room = 1048576) (h3 : dk.calls ≤ 4) (h4 : LgI (zDq (fun _ => none) mtN []) dk) : LgK (zDq (fun _ => none) mtN []) dk 0 0 0 [] 0 4 := ⟨LgW.zero, h4, h1, h2, Nat.le_refl _, h3⟩
set_option maxRecDepth 10000 in
theorem first17_sl (hM : ErrM ad g) (hs : Mem g w L) : Calls Tryz.prog 8 #[] w (Ret fun v w' => v = .bool true ∧ Mem g w' L) := by
  refine zAo Tryz.func8 rfl rfl ?_
  skip
  refine zA6 (zA1 ?_); refine zA rfl (zA2 (v := .bool _) rfl) ?_; refine zA4 (zA6 (zA1 ?_)); refine zAb rfl en9 (newd_sl hs (r := 1000) (by decide) (by decide)) ?_; clear hs; rintro _ w ⟨d, rfl, hs⟩; refine zA rfl (zA0 (v := .tuple _) rfl) ?_; refine zA rfl (zAa (v := .pointer (some _)) rfl rfl) ?_; refine zA rfl (zAa (v := .nilIface) rfl rfl) ?_; refine zA rfl (zA2 (v := .pointer (some _)) rfl) ?_; refine zA rfl (zA2 (v := .nilIface) rfl) ?_; refine zA4 ?_; refine zA6 ?_; refine zA6 (zA1 ?_); refine zA rfl (zA0 (v := .pointer (some _)) rfl) ?_; refine zA rfl (run_eqpn uz25 rfl rfl) ?_; refine zA rfl (zA0 (v := .bool _) rfl) ?_; refine zAi rfl rfl (rfl) ?_
  refine zA rfl (zA0 (v := .nilIface) rfl) ?_; refine zAi rfl rfl (rfl) ?_; refine zA rfl (zBf rfl) ?_; refine zA rfl (zAk (v := .bool _) rfl (rfl) rfl) ?_; refine zA4 ?_; refine zAx rfl (rfl) ?_; refine zAf ?_; refine zA6 (zA1 ?_); refine zA rfl (zA0 (v := .pointer (some _)) rfl) ?_; refine zAb rfl en10 (open0_sl hM (rm := 1000) (ev := 5) (by decide) hs (by decide)) ?_; clear hs; rintro _ w ⟨p, dk, rfl, h1, h2, h3, h4, hs⟩; refine zA rfl (zA0 (v := .tuple _) rfl) ?_; refine zA rfl (zAa (v := .pointer (some _)) rfl rfl) ?_; refine zA rfl (zAa (v := .nilIface) rfl rfl) ?_; refine zA rfl (zA2 (v := .pointer (some _)) rfl) ?_; refine zA rfl (zA2 (v := .nilIface) rfl) ?_
  refine zA4 (zA6 (zA1 ?_)); refine zA rfl (zA0 (v := .pointer (some _)) rfl) ?_; refine zA rfl (zEi uz30 rfl rfl) ?_; refine zA rfl (zA0 (v := .bool _) rfl) ?_; refine zAi rfl rfl (rfl) ?_; refine zA rfl (zA0 (v := .nilIface) rfl) ?_; refine zAi rfl rfl (rfl) ?_; refine zA rfl (zEf rfl) ?_; refine zA rfl (zAj (v := .bool _) rfl (rfl) rfl) ?_; refine zA rfl (zA0 (v := .bool _) rfl) ?_; refine zAi rfl rfl (rfl) ?_; refine zA rfl (zA0 (v := .pointer (some _)) rfl) ?_; refine zAi rfl rfl (rfl) ?_; refine zAb rfl en20 (zFj hs) ?_; clear hs; rintro _ w ⟨rfl, hs⟩; refine zAi rfl rfl (rfl) ?_; refine zA rfl (zBn rfl rfl) ?_; refine zA rfl (zAj (v := .bool _) rfl (rfl) rfl) ?_
  refine zA rfl (zA2 (v := .bool _) rfl) ?_; refine zA4 ?_; refine zAg ?_; refine zBl (v := .bool _) rfl rfl ?_; exact ⟨_, rfl, rfl, hs.tail.tail⟩
end Go.Proofs.YtdkgdjnbpjjfmaaGreatDoor
namespace Go.Proofs.YtdkgdjnbpjjfmaaGreatDoor
set_option linter.all false
open Go.RowKit
attribute [local irreducible] zAq
variable {g w : World} {L M : List HP} {ad : Nat → Addr}

def faultV (c : Int) (p : Bool) (q : Int) : Value := .agg #[.int .i64 c, .bool p, .int .i64 q]
end Go.Proofs.YtdkgdjnbpjjfmaaGreatDoor
namespace Go.Proofs.YtdkgdjnbpjjfmaaGreatDoor
set_option linter.all false
open Go.RowKit
attribute [local irreducible] zAq eV
variable {g w : World} {L M : List HP} {ad : Nat → Addr} {eb : Nat}

def ffV (F : Flt) : Value := faultV F.1 F.2.isSome (((F.2.getD 0 : Nat)) : Int)
def FltA (F : Flt) : Prop := F = (0, none) ∨ F.1 ∈ allCodes
end Go.Proofs.YtdkgdjnbpjjfmaaGreatDoor
namespace Go.Proofs.YtdkgdjnbpjjfmaaGreatDoor
set_option linter.all false
variable {P : Program} {n : Nat} {N R : Post} {B : List (Nat × Post)} {ρ : Env} {w : World}
theorem cw_mid {c1 c2 : Code} {X : Type} (W : List Nat) (slots : X → List (Nat × Value)) (I : X → World → Prop) (h1 : cw P n c1 (fun ρ' w' => ∃ x, I x w' ∧ AllS ρ' (slots x) ∧ Out W ρ' ρ) B R ρ w)
    (h2 : ∀ x ξ w, I x w → cw P n c2 N B R (updL (mix W ξ ρ) (slots x)) w) : cw P n (.seq c1 c2) N B R ρ w :=
  cw_join _ h1 fun ρ' w' ⟨x, hI, hS, hO⟩ => by
    have := h2 x ρ' w' hI
    rwa [← funext (env_head hO _ hS)] at this
end Go.Proofs.YtdkgdjnbpjjfmaaGreatDoor
namespace Go.Proofs.YtdkgdjnbpjjfmaaGreatDoor
set_option linter.all false
open Go.RowKit
attribute [local irreducible] zAq eV
variable {g w : World} {L M : List HP} {ad : Nat → Addr} {rb : Nat} {b : List UInt8}

def zCy (l : List UInt8) : ByteArray := ⟨l.toArray⟩
theorem foldl_push (l : List UInt8) : ∀ s : ByteArray, (l.map fun b => (b.toNat : Int)).foldl (fun (r : ByteArray) n => r.push (UInt8.ofNat n.toNat)) s = ⟨s.data ++ l.toArray⟩ := by
  induction l with
  | nil => intro s; simp
  | cons b l ih =>
    intro s; simp only [List.map_cons, List.foldl_cons, ih]
    have : UInt8.ofNat (b.toNat : Int).toNat = b := by simp
    rw [this]
    simp [ByteArray.push]
theorem run_string_of {P : Program} {w : World} {src dst e : TypeId} (hs : P.underlying src = some (.slice e)) (he : P.underlying e = some (.int .u8)) (hd : P.underlying dst = some .string) {v : Value} {l : List UInt8} (h : seqV w v (zAm l)) :
    (convert src dst v).run P w = .ok (.string (zCy l)) w := by
  obtain ⟨a, n, c, rfl, hn, hc, ha, hr⟩ := h
  have hn : n = l.length := by simpa [zAm] using hn
  subst hn; rw [run_convert_bytes_string w src dst e a l.length c hs he hd]
  cases a with
  | none =>
    have : c = 0 := ha rfl; have : l = [] := List.eq_nil_of_length_eq_zero (by omega); subst this
    rfl
  | some a =>
    have hl : (loadCells a l.length).run P w = .ok ((l.map fun b => (b.toNat : Int)).map (Value.int .u8)).toArray w := by
      have h2 : (l.map fun b => (b.toNat : Int)).map (Value.int .u8) = zAm l := by simp [zAm, u8v, Function.comp_def]
      rw [h2]; have := run_loadCells_list (P := P) w a (zAm l) (fun j v hj => ?_)
      · simpa [zAm] using this
      · have hjl := (List.getElem?_eq_some_iff.1 hj).1
        rcases hr with h | ⟨b, off, cs, E, fz, ha, hb, _, hcs⟩
        · simp [zAm] at hjl; omega
        · obtain rfl := Option.some.inj ha
          rw [Addr.add_lit]; exact zDp hb (by rw [hcs j hjl, hj])
    rw [run_bytesToString w a l.length c _ hl, foldl_push]
    simp [zCy]
theorem zDu {P : Program} {w : World} {ρ : Env} {dst : Option Tmp} {ty : TypeId} {pos : String} {aft : Array Edge} {x : Operand} {a b e : TypeId} (hs : P.underlying a = some (.slice e)) (he : P.underlying e = some (.int .u8)) (hd : P.underlying b = some .string) {v : Value} {l : List UInt8} (hx : ev ρ x = v) (h : seqV w v (zAm l)) :
    (execOp (ev ρ) ⟨dst, .convert a b x, ty, pos, aft, none⟩).run P w = .ok (.value (.string (zCy l))) w := by
  simp only [execOp, hx, Sem.run_bind, run_string_of hs he hd h, Result.andThen_ok, Sem.run_pure]
abbrev mM : Nat := 4611686018427387904
def rdEps (b : List UInt8) : Nat → List Pr → Nat × Nat → List Pr × (Nat × Nat)
  | 0, acc, st => (acc, st)
  | n + 1, acc, st => if st.2 ≠ 0 then (acc, st) else rdEps b n (acc ++ [((((zEr mM b st).1 : Nat) : Int), (((zEr mM b (zEr mM b st).2).1 : Nat) : Int))]) (zEr mM b (zEr mM b st).2).2
def rdObs (b : List UInt8) : Nat → List Ob → Nat × Nat → List Ob × (Nat × Nat)
  | 0, acc, st => (acc, st)
  | n + 1, acc, st => if st.2 ≠ 0 then (acc, st) else
    rdObs b n (acc ++ [(zCy (bytG 64 b st).1, (((zEr mM b (bytG 64 b st).2).1 : Nat) : Int), (zEr 4294967295 b (zEr mM b (bytG 64 b st).2).2).1)]) (zEr 4294967295 b (zEr mM b (bytG 64 b st).2).2).2
/-- What was read, and where the reader is. -/
def rdM (b : List UInt8) : Mf × (Nat × Nat) :=
  let a1 := zEr mM b (0, 0)
  let a2 := zEr mM b a1.2
  let a3 := zEr mM b a2.2
  let a4 := vintB (-4611686018427387904) 4611686018427387904 b a3.2
  let a5 := zEr 256 b a4.2
  let e := rdEps b a5.1 [] a5.2
  let a6 := zEr 8 b e.2
  let o := rdObs b a6.1 [] a6.2
  (⟨(a1.1 : Nat), (a2.1 : Nat), (a3.1 : Nat), a4.1, e.1, o.1⟩, o.2)
def eF (st : Nat × Nat) : Flt := if st.2 = 101 then (101, none) else (st.2, some st.1)
def zGc (b : List UInt8) : Flt × Mf :=
  if (openL b).1 ≠ 0 then (((openL b).1, none), Mf.z) else
  if (rdM (openL b).2).2.2 ≠ 0 then (eF (rdM (openL b).2).2, Mf.z) else
  if (rdM (openL b).2).2.1 < (openL b).2.length then ((103, some (rdM (openL b).2).2.1), Mf.z) else
  if (mfF (rdM (openL b).2).1).1 ≠ 0 then (mfF (rdM (openL b).2).1, Mf.z) else ((0, none), (rdM (openL b).2).1)
theorem eV_flV {st : Nat × Nat} (h : st.2 ≠ 0) (eb : Nat) : eV ad st.2 eb = flV ad (eF st) eb := by
  obtain ⟨at_, c⟩ := st; simp only at h
  unfold eF
  by_cases h1 : c = 101
  · subst h1; rw [if_pos rfl, flV_bare, eV_101]
  · rw [if_neg h1, flV_at, eV_at h h1]
theorem errC_flC {st : Nat × Nat} (h : st.2 ≠ 0) (eb : Nat) : errC ad eb st.1 st.2 = flC ad (eF st) eb := by
  obtain ⟨at_, c⟩ := st; simp only at h
  unfold eF
  by_cases h1 : c = 101
  · subst h1; rw [if_pos rfl, flC_bare, errC_bare (.inr rfl)]
  · rw [if_neg h1, flC_at, errC_at (by omega)]
theorem zeroM (hs : Mem g w L) : Mem g w (mfP Mf.z (none, 0) (none, 0) ++ L) := ((hs.addE (zEg 3 _)).addE (zEg 2 _))
theorem vnum_le1 (most : Nat) (st : Nat × Nat) : (zEr most b st).1 ≤ most := zF3 (n := (zEr most b st).1) (st2 := (zEr most b st).2) rfl
theorem rdObs_len : ∀ (n : Nat) (acc : List Ob) (st : Nat × Nat), (rdObs b n acc st).1.length ≤ acc.length + n
  | 0, acc, st => Nat.le_refl _
  | n + 1, acc, st => by
    unfold rdObs
    split
    · simp only; omega
    · have := rdObs_len n (acc ++ [(zCy (bytG 64 b st).1, (((zEr mM b (bytG 64 b st).2).1 : Nat) : Int), (zEr 4294967295 b (zEr mM b (bytG 64 b st).2).2).1)]) (zEr 4294967295 b (zEr mM b (bytG 64 b st).2).2).2
      simp only [List.length_append, List.length_cons, List.length_nil] at this
      omega
theorem rdObs_sum : ∀ (n : Nat) (acc : List Ob) (st : Nat × Nat), (∀ o ∈ acc, o.2.2 < 4294967296) → ∀ o ∈ (rdObs b n acc st).1, o.2.2 < 4294967296
  | 0, acc, st, h => h
  | n + 1, acc, st, h => by
    unfold rdObs
    split
    · exact h
    · refine rdObs_sum n _ _ fun o ho => ?_
      rcases List.mem_append.1 ho with ho | ho
      · exact h o ho
      · simp only [List.mem_cons, List.not_mem_nil, or_false] at ho
        subst ho; have : (zEr 4294967295 b (zEr mM b (bytG 64 b st).2).2).1 ≤ 4294967295 := vnum_le1 _ _
        simp only
        omega
def ManiR (g : World) (ad : Nat → Addr) (L : List HP) (b : List UInt8) (v : Value) (w' : World) : Prop := ∃ (s1 s2 : SA) (eb : Nat), v = .tuple #[.agg (mfL (zGc b).2 s1 s2).toArray, flV ad (zGc b).1 eb] ∧ Mem g w' (flC ad (zGc b).1 eb :: (mfP (zGc b).2 s1 s2 ++ L))
set_option maxHeartbeats 4000000 in
set_option maxRecDepth 10000 in
theorem maniG_sl (hP : ErrP ad g) (hW : ErrW ad g) (hE : ErrV ad g) (hs : Mem g w L) {a : Option Addr} {n c : Nat} (hr : Rd g L (.slice a n c) (zAm b)) (hn : n = b.length) (hc : n ≤ c) (hlen : b.length ≤ 1000000) : Calls Tryz.prog 113 #[.slice a n c] w (Ret (ManiR g ad L b)) := by
  obtain ⟨ok, B, hop⟩ : ∃ k B, openL b = (k, B) := ⟨_, _, rfl⟩
  have hBl : B.length ≤ 1000000 := by
    unfold openL at hop
    split at hop
    · cases hop; simp
    · split at hop
      · cases hop; rw [List.length_take]; omega
      · cases hop; simp
  have hRG : zGc b = if ok ≠ 0 then ((ok, none), Mf.z) else if (rdM B).2.2 ≠ 0 then (eF (rdM B).2, Mf.z) else if (rdM B).2.1 < B.length then ((103, some (rdM B).2.1), Mf.z) else if (mfF (rdM B).1).1 ≠ 0 then (mfF (rdM B).1, Mf.z) else ((0, none), (rdM B).1) := by simp only [zGc, hop]
  refine zAo Tryz.func113 rfl rfl ?_
  skip
  refine zA6 (zA1 ?_); refine zBd hs rfl ze39 ?_; clear hs; intro b2 w hs
  try simp only [List.set_cons_succ, List.set_cons_zero] at hs
  refine zA rfl (zA2 (v := .nilIface) rfl) ?_; refine zA4 (zA6 (zA1 ?_)); refine zA rfl (zA0 (v := .slice _ _ _) rfl) ?_; refine zAb rfl en108 (copen_sl hP hs hr.cons hn hc (by omega) hop) ?_; clear hs; rintro _ w ⟨a13, c13, rfl, hs⟩; refine zA rfl (zA0 (v := .tuple _) rfl) ?_; refine zA rfl (zAa (v := .slice _ _ _) rfl rfl) ?_; refine zA rfl (zAa (v := zAq ad _) rfl rfl) ?_; refine zA rfl (zA2 (v := .slice _ _ _) rfl) ?_; refine zA rfl (zA2 (v := zAq ad _) rfl) ?_; refine zA4 ?_; refine zA6 ?_; refine zA6 (zA1 ?_); refine zA rfl (zA0 (v := zAq ad _) rfl) ?_; refine zA rfl (zAt (ad := ad) rfl) ?_; refine zA4 ?_; refine zB8 rfl ?_ ?_
  ·
   intro h17; have g17 := ne_t h17
   have hz : ok ≠ 0 := by simpa using h17
   rw [if_pos hz] at hRG; refine zA6 (zA1 ?_); refine zA rfl (zC3 (cs := [.int .i64 0, .int .i64 0, .int .i64 0, .int .i64 0, .slice none 0 0, .slice none 0 0]) zBx ze39 pl39 rfl) ?_; refine zA rfl (zA0 (v := zAq ad _) rfl) ?_; refine zAn hs 1 rfl rfl rfl zDf rfl rfl ?_; clear hs; intro w hs
   try simp only [List.set_cons_succ, List.set_cons_zero] at hs
   refine zA rfl (zA2 (v := zAq ad _) rfl) ?_; refine zA4 ?_; refine zAg ?_; refine zFd [(.cell 2 39, .agg _), (.tmp 3, zAq ad _)] rfl ⟨⟨_, rfl, zBq hs 1 rfl zBx zDf⟩, rfl, trivial⟩ ?_; refine ⟨_, rfl, (none, 0), (none, 0), 0, by rw [hRG]; rfl, ?_⟩; rw [hRG]; exact (zeroM (hs.tail.tail)).addE (zEd _)
  ·
   intro h17; have g17 := ne_f h17
   have hz : ok = 0 := by simpa using h17
   subst hz; rw [if_neg (by decide)] at hRG; refine zAf ?_; refine zA6 (zA1 ?_); refine zA rfl (zA0 (v := .slice _ _ _) rfl) ?_; refine zAb rfl en68 (zFv ad hs (hs.rdOwn 0 rfl) rfl (by omega)) ?_; clear hs; rintro _ w ⟨rb, rfl, hs⟩; replace hs := hs.drop 1; obtain ⟨i1, t1, e1⟩ : ∃ i t, zEr mM B (0, 0) = (i, t) := ⟨_, _, rfl⟩; obtain ⟨i2, t2, e2⟩ : ∃ i t, zEr mM B t1 = (i, t) := ⟨_, _, rfl⟩; obtain ⟨i3, t3, e3⟩ : ∃ i t, zEr mM B t2 = (i, t) := ⟨_, _, rfl⟩; obtain ⟨i4, t4, e4⟩ : ∃ i t, vintB (-4611686018427387904) 4611686018427387904 B t3 = (i, t) := ⟨_, _, rfl⟩; obtain ⟨i5, t5, e5⟩ : ∃ i t, zEr 256 B t4 = (i, t) := ⟨_, _, rfl⟩
   obtain ⟨fe, t6, e6⟩ : ∃ i t, rdEps B i5 [] t5 = (i, t) := ⟨_, _, rfl⟩; obtain ⟨i7, t7, e7⟩ : ∃ i t, zEr 8 B t6 = (i, t) := ⟨_, _, rfl⟩; obtain ⟨fo, t8, e8⟩ : ∃ i t, rdObs B i7 [] t7 = (i, t) := ⟨_, _, rfl⟩
   have hM : rdM B = (⟨(i1 : Nat), (i2 : Nat), (i3 : Nat), i4, fe, fo⟩, t8) := by simp only [rdM, e1, e2, e3, e4, e5, e6, e7, e8]
   rw [hM] at hRG; simp only at hRG; have l1 : i1 ≤ 4611686018427387904 := zF3 e1; have l2 : i2 ≤ 4611686018427387904 := zF3 e2; have l3 : i3 ≤ 4611686018427387904 := zF3 e3; have l5 := zF3 e5; have l7 := zF3 e7; refine zA rfl (zA2 (v := .pointer (some _)) rfl) ?_; refine zA4 (zA6 (zA1 ?_)); refine zA rfl (zA0 (v := .pointer (some _)) rfl) ?_; refine zAb rfl zDr (zCo (most := 4611686018427387904) hW hs (by omega) e1) ?_; clear hs; rintro _ w ⟨rfl, hs⟩; refine zA rfl (zAh zBj uz3 rfl (c := ((i1 : Nat) : Int)) (zCp.wrap ⟨by omega, by omega⟩)) ?_; refine zA rfl (zA0 (v := .pointer (some _)) rfl) ?_; refine zAb rfl zDr (zCo (most := 4611686018427387904) hW hs (by omega) e2) ?_; clear hs
   rintro _ w ⟨rfl, hs⟩; refine zA rfl (zAh zBj uz2 rfl (c := ((i2 : Nat) : Int)) (zCp.wrap ⟨by omega, by omega⟩)) ?_; refine zA rfl (zA0 (v := .pointer (some _)) rfl) ?_; refine zAb rfl zDr (zCo (most := 4611686018427387904) hW hs (by omega) e3) ?_; clear hs; rintro _ w ⟨rfl, hs⟩; refine zA rfl (zAh zBj uz2 rfl (c := ((i3 : Nat) : Int)) (zCp.wrap ⟨by omega, by omega⟩)) ?_; refine zA rfl (zA0 (v := .pointer (some _)) rfl) ?_; refine zAb rfl en144 (intB_sl hW hs (by omega) e4) ?_; clear hs; rintro _ w ⟨rfl, hs⟩; refine zA rfl (zC3 (cs := [.int .i64 i1, .int .i64 i2, .int .i64 i3, .int .i64 i4, .slice none 0 0, .slice none 0 0]) zBx ze39 pl39 rfl) ?_; refine zBd hs rfl ze39 ?_; clear hs
   intro b7 w hs
   try simp only [List.set_cons_succ, List.set_cons_zero] at hs
   refine zAn hs 0 rfl rfl rfl zDf rfl rfl ?_; clear hs; intro w hs
   try simp only [List.set_cons_succ, List.set_cons_zero] at hs
   refine zA4 ?_; replace hs := hs.arr [1, 0, 2] 3 (by decide); refine cw_mid (X := SA) [8, 34, 35, 36, 37, 38, 39, 40, 41, 42, 43, 44, 45, 46, 47, 48, 49, 50, 51, 52, 53, 54, 55, 56] (fun _ => []) (fun s w => Mem g w (zFc rb ad B t6 :: zFp 2 (.slice s.1 fe.length s.2) (fe.map prL) :: cells b7 [.int .i64 i1, .int .i64 i2, .int .i64 i3, .int .i64 i4, .slice s.1 fe.length s.2, .slice none 0 0] 39 :: cells b2 [.int .i64 0, .int .i64 0, .int .i64 0, .int .i64 0, .slice none 0 0, .slice none 0 0] 39 :: L)) ?_ ?_
   ·
    refine zA6 (zA1 ?_); refine zA rfl (zA0 (v := .pointer (some _)) rfl) ?_; refine zAb rfl zDr (zCo (most := 256) hW hs (by omega) e5) ?_; clear hs; rintro _ w ⟨rfl, hs⟩; refine zA rfl (zA2 (v := .int .u64 _) rfl) ?_; refine zA4 ?_; replace hs := (hs.addE (zEg 2 _)).arr [1, 0, 2, 3] 4 (by decide); refine zAw ?_
    refine zBw (X := Nat × List Pr × (Nat × Nat) × SA) [8, 36, 37, 38, 39, 40, 41, 42, 43, 44, 45, 46, 47, 48, 49, 50, 51, 52, 53, 54, 55, 56] (fun q => [(8, .int .u64 (q.1 : Nat))]) (fun q w => q.1 + q.2.1.length ≤ 256 ∧ rdEps B q.1 q.2.1 q.2.2.1 = (fe, t6) ∧ Mem g w (zFc rb ad B q.2.2.1 :: zFp 2 (.slice q.2.2.2.1 q.2.1.length q.2.2.2.2) (q.2.1.map prL) :: cells b7 [.int .i64 i1, .int .i64 i2, .int .i64 i3, .int .i64 i4, .slice q.2.2.2.1 q.2.1.length q.2.2.2.2, .slice none 0 0] 39 :: cells b2 [.int .i64 0, .int .i64 0, .int .i64 0, .int .i64 0, .slice none 0 0, .slice none 0 0] 39 :: L)) (fun q => q.1) ((i5, [], t5, (none, 0))) ?_ ?_ ?_
    · exact ⟨rfl, trivial⟩
    · exact ⟨by simp; omega, e6, hs⟩
    clear hs; rintro x ξ w hI; obtain ⟨q, acc, st, s⟩ := x; obtain ⟨hq, hrl, hs⟩ := hI; simp only at hq hrl hs
    show cw _ _ _ _ _ _ (updL (mix _ ξ _) [(8, .int .u64 (q : Nat))]) w
    refine zA6 ?_; refine zA6 (zA1 ?_); refine zA rfl (zA0 (v := .int .u64 _) rfl) ?_; refine zA rfl (zBi rfl rfl) ?_; refine zA rfl (zA0 (v := .bool _) rfl) ?_; refine zBa (t := _) (d := 38) rfl ?_ ?_
    ·
     intro h37; have g37 := of_decide_eq_true h37; obtain ⟨q, rfl⟩ : ∃ q', q = q' + 1 := ⟨q - 1, by omega⟩; simp only [rdEps] at hrl; refine zAi rfl rfl h37 ?_; refine zA rfl (zA0 (v := .pointer (some _)) rfl) ?_; refine zAi rfl rfl h37 ?_; refine zAb rfl en70 (err_sl hs) ?_; clear hs; rintro _ w ⟨e40, rfl, hs⟩; refine zAi rfl rfl h37 ?_; refine zA rfl (run_eqE (ad := ad) rfl) ?_; refine zA rfl (zAj (v := .bool _) rfl h37 rfl) ?_; refine zA4 ?_; refine zB8 rfl ?_ ?_
     ·
      intro h41; have g41 := of_decide_eq_true h41; have hz0 := of_decide_eq_true h41; rw [if_neg (by omega)] at hrl; obtain ⟨ve, u1, v1⟩ : ∃ i t, zEr mM B st = (i, t) := ⟨_, _, rfl⟩; obtain ⟨vt, u2, v2⟩ : ∃ i t, zEr mM B u1 = (i, t) := ⟨_, _, rfl⟩; simp only [v1, v2] at hrl; have lv1 : ve ≤ 4611686018427387904 := zF3 v1; have lv2 : vt ≤ 4611686018427387904 := zF3 v2; refine zAf ?_; refine zA6 ?_; refine zAw ?_; refine zAy zBv (hs.suffix 4 rfl) ?_; intro w tr hK; replace hs := tr _ hs; clear tr; refine zA5 0 rfl rfl (fun w hs => zA3 (o' := 4) zBx rfl sz36 rfl rfl rfl) hK ?_; refine zA5 2 rfl rfl (fun w hs => zA0 (v := .pointer (some _)) rfl) hK ?_
      refine zA5 5 rfl rfl (fun w hs => zA0 (v := .pointer (some _)) rfl) hK ?_; refine zA9 [1, 3] ?_; refine ⟨⟨_, rfl, ?_⟩, ⟨_, rfl, ?_⟩, trivial⟩
      ·
       refine zA rfl (zA8 zCx rfl rfl (hs.cellAt 2 rfl rfl)) ?_; clear hK; have hK := (show Mem g w L from by first | exact hs.suffix 4 rfl | exact hs.suffix 5 rfl); refine zA4 ⟨hK, ?_⟩; refine zA9 [3] ?_; refine ⟨⟨_, rfl, ?_⟩, trivial⟩; refine zAb rfl zDr (zCo (most := 4611686018427387904) hW hs (by omega) v1) ?_; clear hs; rintro _ w ⟨rfl, hs⟩; clear hK; have hK := hs.suffix 4 rfl; refine zA4 ⟨hK, ?_⟩; refine zA5 4 rfl rfl (fun w hs => zAh zBj uz3 rfl (c := ((ve : Nat) : Int)) (zCp.wrap ⟨by omega, by omega⟩)) hK ?_; refine zA9 [6] ?_; refine ⟨⟨_, rfl, ?_⟩, trivial⟩; refine zAb rfl zDr (zCo (most := 4611686018427387904) hW hs (by omega) v2) ?_; clear hs; rintro _ w ⟨rfl, hs⟩; clear hK
       have hK := hs.suffix 4 rfl; refine zA4 ⟨hK, ?_⟩; refine zA5 7 rfl rfl (fun w hs => zAh zBj uz2 rfl (c := ((vt : Nat) : Int)) (zCp.wrap ⟨by omega, by omega⟩)) hK ?_; refine zA5 8 rfl rfl (fun w hs => zB3 ([.int .i64 ve, .int .i64 vt]) zDk ze141 pl141 rfl (by simp [Value.cells]) rfl rfl) hK ?_; refine zA9 [9] ?_; refine ⟨⟨_, rfl, ?_⟩, trivial⟩; refine zAz hs rfl (row := prL (((ve : Nat) : Int), ((vt : Nat) : Int))) zCx zsPr rfl (zFq _ _) (by decide) (by decide) ?_; clear hs; intro b54 w hs; clear hK; have hK := hs.suffix 5 rfl; refine zA4 ⟨hK, ?_⟩; refine zA9 [10] ?_; refine ⟨⟨_, rfl, ?_⟩, trivial⟩
       refine zAv hs rfl 2 0 rfl rfl zCx zCx in141 rfl rfl (by rfl) rfl rfl (by simp only [List.length_map]; omega) (by simp only [List.length_map]; omega) ?_; clear hs; intro a55 c55 w hs; simp only [List.set_cons_succ, List.set_cons_zero] at hs; clear hK; have hK := hs.suffix 5 rfl; refine zA4 ⟨hK, ?_⟩; refine zA5 11 rfl rfl (fun w hs => zA3 (o' := 4) zBx rfl sz36 rfl rfl rfl) hK ?_; refine zA9 [12] ?_; refine ⟨⟨_, rfl, ?_⟩, trivial⟩; refine zAr (v := .slice _ _ _) hs 3 rfl sz36 rfl rfl rfl rfl ?_; clear hs; intro w hs
       try simp only [List.set_cons_succ, List.set_cons_zero] at hs
       clear hK; have hK := hs.suffix 5 rfl; refine zA4 ⟨hK, ?_⟩; refine zAp (by kernel_rfl) ?_; clear hK; refine zA1 ?_; refine zA rfl (zA0 (v := .int .u64 _) rfl) ?_; refine zA rfl (zBo rfl rfl) ?_; refine zA rfl (zA2 (v := .int .u64 _) rfl) ?_; refine zA4 ?_
       have hw : IntKind.u64.wrap (((q + 1 : Nat) : Int) - 1) = ((q : Nat) : Int) := by rw [zB]; omega
       have hl : (acc.map prL).length + 1 = (acc ++ [(((ve : Nat) : Int), ((vt : Nat) : Int))]).length := by simp
       rw [hl] at hs; exact ⟨(q, acc ++ [(((ve : Nat) : Int), ((vt : Nat) : Int))], u2, (a55, c55)), by simp only; omega, ⟨by simp; omega, hrl, by simp only [List.map_append, List.map_cons, List.map_nil]; exact hs.tail⟩, ⟨congrArg (Value.int .u64) hw, trivial⟩, by repeat (first | exact Out.mix _ _ _ | refine Out.updo rfl ?_ | refine Out.upd rfl ?_ | refine Out.mixIn rfl ?_)⟩
      ·
       refine zAb rfl zDr (zCo (most := 4611686018427387904) hW hs (by omega) v1) ?_; clear hs; rintro _ w ⟨rfl, hs⟩; clear hK; have hK := hs.suffix 4 rfl; refine zA4 ⟨hK, ?_⟩; refine zA5 4 rfl rfl (fun w hs => zAh zBj uz3 rfl (c := ((ve : Nat) : Int)) (zCp.wrap ⟨by omega, by omega⟩)) hK ?_; refine zA9 [1, 6] ?_; refine ⟨⟨_, rfl, ?_⟩, ⟨_, rfl, ?_⟩, trivial⟩
       ·
        refine zA rfl (zA8 zCx rfl rfl (hs.cellAt 2 rfl rfl)) ?_; clear hK; have hK := (show Mem g w L from by first | exact hs.suffix 4 rfl | exact hs.suffix 5 rfl); refine zA4 ⟨hK, ?_⟩; refine zA9 [6] ?_; refine ⟨⟨_, rfl, ?_⟩, trivial⟩; refine zAb rfl zDr (zCo (most := 4611686018427387904) hW hs (by omega) v2) ?_; clear hs; rintro _ w ⟨rfl, hs⟩; clear hK; have hK := hs.suffix 4 rfl; refine zA4 ⟨hK, ?_⟩; refine zA5 7 rfl rfl (fun w hs => zAh zBj uz2 rfl (c := ((vt : Nat) : Int)) (zCp.wrap ⟨by omega, by omega⟩)) hK ?_; refine zA5 8 rfl rfl (fun w hs => zB3 ([.int .i64 ve, .int .i64 vt]) zDk ze141 pl141 rfl (by simp [Value.cells]) rfl rfl) hK ?_; refine zA9 [9] ?_
        refine ⟨⟨_, rfl, ?_⟩, trivial⟩; refine zAz hs rfl (row := prL (((ve : Nat) : Int), ((vt : Nat) : Int))) zCx zsPr rfl (zFq _ _) (by decide) (by decide) ?_; clear hs; intro b54 w hs; clear hK; have hK := hs.suffix 5 rfl; refine zA4 ⟨hK, ?_⟩; refine zA9 [10] ?_; refine ⟨⟨_, rfl, ?_⟩, trivial⟩; refine zAv hs rfl 2 0 rfl rfl zCx zCx in141 rfl rfl (by rfl) rfl rfl (by simp only [List.length_map]; omega) (by simp only [List.length_map]; omega) ?_; clear hs; intro a55 c55 w hs; simp only [List.set_cons_succ, List.set_cons_zero] at hs; clear hK; have hK := hs.suffix 5 rfl; refine zA4 ⟨hK, ?_⟩; refine zA5 11 rfl rfl (fun w hs => zA3 (o' := 4) zBx rfl sz36 rfl rfl rfl) hK ?_
        refine zA9 [12] ?_; refine ⟨⟨_, rfl, ?_⟩, trivial⟩; refine zAr (v := .slice _ _ _) hs 3 rfl sz36 rfl rfl rfl rfl ?_; clear hs; intro w hs
        try simp only [List.set_cons_succ, List.set_cons_zero] at hs
        clear hK; have hK := hs.suffix 5 rfl; refine zA4 ⟨hK, ?_⟩; refine zAp (by kernel_rfl) ?_; clear hK; refine zA1 ?_; refine zA rfl (zA0 (v := .int .u64 _) rfl) ?_; refine zA rfl (zBo rfl rfl) ?_; refine zA rfl (zA2 (v := .int .u64 _) rfl) ?_; refine zA4 ?_
        have hw : IntKind.u64.wrap (((q + 1 : Nat) : Int) - 1) = ((q : Nat) : Int) := by rw [zB]; omega
        have hl : (acc.map prL).length + 1 = (acc ++ [(((ve : Nat) : Int), ((vt : Nat) : Int))]).length := by simp
        rw [hl] at hs; exact ⟨(q, acc ++ [(((ve : Nat) : Int), ((vt : Nat) : Int))], u2, (a55, c55)), by simp only; omega, ⟨by simp; omega, hrl, by simp only [List.map_append, List.map_cons, List.map_nil]; exact hs.tail⟩, ⟨congrArg (Value.int .u64) hw, trivial⟩, by repeat (first | exact Out.mix _ _ _ | refine Out.updo rfl ?_ | refine Out.upd rfl ?_ | refine Out.mixIn rfl ?_)⟩
       ·
        refine zAb rfl zDr (zCo (most := 4611686018427387904) hW hs (by omega) v2) ?_; clear hs; rintro _ w ⟨rfl, hs⟩; clear hK; have hK := hs.suffix 4 rfl; refine zA4 ⟨hK, ?_⟩; refine zA5 7 rfl rfl (fun w hs => zAh zBj uz2 rfl (c := ((vt : Nat) : Int)) (zCp.wrap ⟨by omega, by omega⟩)) hK ?_; refine zA5 8 rfl rfl (fun w hs => zB3 ([.int .i64 ve, .int .i64 vt]) zDk ze141 pl141 rfl (by simp [Value.cells]) rfl rfl) hK ?_; refine zA9 [1, 9] ?_; refine ⟨⟨_, rfl, ?_⟩, ⟨_, rfl, ?_⟩, trivial⟩
        ·
         refine zA rfl (zA8 zCx rfl rfl (hs.cellAt 2 rfl rfl)) ?_; clear hK; have hK := (show Mem g w L from by first | exact hs.suffix 4 rfl | exact hs.suffix 5 rfl); refine zA4 ⟨hK, ?_⟩; refine zA9 [9] ?_; refine ⟨⟨_, rfl, ?_⟩, trivial⟩; refine zAz hs rfl (row := prL (((ve : Nat) : Int), ((vt : Nat) : Int))) zCx zsPr rfl (zFq _ _) (by decide) (by decide) ?_; clear hs; intro b54 w hs; clear hK; have hK := hs.suffix 5 rfl; refine zA4 ⟨hK, ?_⟩; refine zA9 [10] ?_; refine ⟨⟨_, rfl, ?_⟩, trivial⟩; refine zAv hs rfl 2 0 rfl rfl zCx zCx in141 rfl rfl (by rfl) rfl rfl (by simp only [List.length_map]; omega) (by simp only [List.length_map]; omega) ?_; clear hs; intro a55 c55 w hs
         simp only [List.set_cons_succ, List.set_cons_zero] at hs; clear hK; have hK := hs.suffix 5 rfl; refine zA4 ⟨hK, ?_⟩; refine zA5 11 rfl rfl (fun w hs => zA3 (o' := 4) zBx rfl sz36 rfl rfl rfl) hK ?_; refine zA9 [12] ?_; refine ⟨⟨_, rfl, ?_⟩, trivial⟩; refine zAr (v := .slice _ _ _) hs 3 rfl sz36 rfl rfl rfl rfl ?_; clear hs; intro w hs
         try simp only [List.set_cons_succ, List.set_cons_zero] at hs
         clear hK; have hK := hs.suffix 5 rfl; refine zA4 ⟨hK, ?_⟩; refine zAp (by kernel_rfl) ?_; clear hK; refine zA1 ?_; refine zA rfl (zA0 (v := .int .u64 _) rfl) ?_; refine zA rfl (zBo rfl rfl) ?_; refine zA rfl (zA2 (v := .int .u64 _) rfl) ?_; refine zA4 ?_
         have hw : IntKind.u64.wrap (((q + 1 : Nat) : Int) - 1) = ((q : Nat) : Int) := by rw [zB]; omega
         have hl : (acc.map prL).length + 1 = (acc ++ [(((ve : Nat) : Int), ((vt : Nat) : Int))]).length := by simp
         rw [hl] at hs; exact ⟨(q, acc ++ [(((ve : Nat) : Int), ((vt : Nat) : Int))], u2, (a55, c55)), by simp only; omega, ⟨by simp; omega, hrl, by simp only [List.map_append, List.map_cons, List.map_nil]; exact hs.tail⟩, ⟨congrArg (Value.int .u64) hw, trivial⟩, by repeat (first | exact Out.mix _ _ _ | refine Out.updo rfl ?_ | refine Out.upd rfl ?_ | refine Out.mixIn rfl ?_)⟩
        ·
         refine zAz hs rfl (row := prL (((ve : Nat) : Int), ((vt : Nat) : Int))) zCx zsPr rfl (zFq _ _) (by decide) (by decide) ?_; clear hs; intro b54 w hs; clear hK; have hK := hs.suffix 5 rfl; refine zA4 ⟨hK, ?_⟩; refine zA9 [1] ?_; refine ⟨⟨_, rfl, ?_⟩, trivial⟩; refine zA rfl (zA8 zCx rfl rfl (hs.cellAt 3 rfl rfl)) ?_; clear hK; have hK := (show Mem g w L from by first | exact hs.suffix 4 rfl | exact hs.suffix 5 rfl); refine zA4 ⟨hK, ?_⟩; refine zA9 [10] ?_; refine ⟨⟨_, rfl, ?_⟩, trivial⟩; refine zAv hs rfl 2 0 rfl rfl zCx zCx in141 rfl rfl (by rfl) rfl rfl (by simp only [List.length_map]; omega) (by simp only [List.length_map]; omega) ?_; clear hs; intro a55 c55 w hs
         simp only [List.set_cons_succ, List.set_cons_zero] at hs; clear hK; have hK := hs.suffix 5 rfl; refine zA4 ⟨hK, ?_⟩; refine zA5 11 rfl rfl (fun w hs => zA3 (o' := 4) zBx rfl sz36 rfl rfl rfl) hK ?_; refine zA9 [12] ?_; refine ⟨⟨_, rfl, ?_⟩, trivial⟩; refine zAr (v := .slice _ _ _) hs 3 rfl sz36 rfl rfl rfl rfl ?_; clear hs; intro w hs
         try simp only [List.set_cons_succ, List.set_cons_zero] at hs
         clear hK; have hK := hs.suffix 5 rfl; refine zA4 ⟨hK, ?_⟩; refine zAp (by kernel_rfl) ?_; clear hK; refine zA1 ?_; refine zA rfl (zA0 (v := .int .u64 _) rfl) ?_; refine zA rfl (zBo rfl rfl) ?_; refine zA rfl (zA2 (v := .int .u64 _) rfl) ?_; refine zA4 ?_
         have hw : IntKind.u64.wrap (((q + 1 : Nat) : Int) - 1) = ((q : Nat) : Int) := by rw [zB]; omega
         have hl : (acc.map prL).length + 1 = (acc ++ [(((ve : Nat) : Int), ((vt : Nat) : Int))]).length := by simp
         rw [hl] at hs; exact ⟨(q, acc ++ [(((ve : Nat) : Int), ((vt : Nat) : Int))], u2, (a55, c55)), by simp only; omega, ⟨by simp; omega, hrl, by simp only [List.map_append, List.map_cons, List.map_nil]; exact hs.tail⟩, ⟨congrArg (Value.int .u64) hw, trivial⟩, by repeat (first | exact Out.mix _ _ _ | refine Out.updo rfl ?_ | refine Out.upd rfl ?_ | refine Out.mixIn rfl ?_)⟩
     ·
      intro h41; have g41 := of_decide_eq_false h41; have hz0 := of_decide_eq_false h41; rw [if_pos hz0] at hrl
      cases hrl
      refine zBg rfl ?_; exact ⟨s, hs, trivial, by repeat (first | with_reducible exact Out.refl _ _ | refine Out.updo rfl ?_ | refine Out.upd rfl ?_ | refine Out.mixIn rfl ?_)⟩
    ·
     intro h37; have g37 := of_decide_eq_false h37
     obtain rfl : q = 0 := by omega
     cases hrl
     refine zAc rfl rfl rfl h37 ?_; refine zAc rfl rfl rfl h37 ?_; refine zAc rfl rfl rfl h37 ?_; refine zA rfl (zAk (v := .bool _) rfl h37 rfl) ?_; refine zA4 ?_; refine zAx rfl rfl ?_; refine zBg rfl ?_; exact ⟨s, hs, trivial, by repeat (first | with_reducible exact Out.refl _ _ | refine Out.updo rfl ?_ | refine Out.upd rfl ?_ | refine Out.mixIn rfl ?_)⟩
   ·
    clear hs; rintro x ξ w hI; have hs := hI; clear hI; generalize x = s1 at hs; refine cw_mid (X := SA) [9, 57, 58, 59, 60, 61, 62, 63, 64, 65, 66, 67, 68, 69, 70, 71, 72, 73, 74, 75, 76, 77, 78, 79, 80, 81, 82] (fun _ => []) (fun s w => Mem g w (zFc rb ad B t8 :: zFp 3 (.slice s.1 fo.length s.2) (fo.map obL) :: zFp 2 (.slice s1.1 fe.length s1.2) (fe.map prL) :: cells b7 [.int .i64 i1, .int .i64 i2, .int .i64 i3, .int .i64 i4, .slice s1.1 fe.length s1.2, .slice s.1 fo.length s.2] 39 :: cells b2 [.int .i64 0, .int .i64 0, .int .i64 0, .int .i64 0, .slice none 0 0, .slice none 0 0] 39 :: L)) ?_ ?_
    ·
     refine zA6 (zA1 ?_); refine zA rfl (zA0 (v := .pointer (some _)) rfl) ?_; refine zAb rfl zDr (zCo (most := 8) hW hs (by omega) e7) ?_; clear hs; rintro _ w ⟨rfl, hs⟩; refine zA rfl (zA2 (v := .int .u64 _) rfl) ?_; refine zA4 ?_; replace hs := (hs.addE (zEg 3 _)).arr [1, 0, 2, 3, 4] 5 (by decide); refine zAw ?_
     refine zBw (X := Nat × List Ob × (Nat × Nat) × SA) [9, 59, 60, 61, 62, 63, 64, 65, 66, 67, 68, 69, 70, 71, 72, 73, 74, 75, 76, 77, 78, 79, 80, 81, 82] (fun q => [(9, .int .u64 (q.1 : Nat))]) (fun q w => q.1 + q.2.1.length ≤ 8 ∧ rdObs B q.1 q.2.1 q.2.2.1 = (fo, t8) ∧ Mem g w (zFc rb ad B q.2.2.1 :: zFp 3 (.slice q.2.2.2.1 q.2.1.length q.2.2.2.2) (q.2.1.map obL) :: zFp 2 (.slice s1.1 fe.length s1.2) (fe.map prL) :: cells b7 [.int .i64 i1, .int .i64 i2, .int .i64 i3, .int .i64 i4, .slice s1.1 fe.length s1.2, .slice q.2.2.2.1 q.2.1.length q.2.2.2.2] 39 :: cells b2 [.int .i64 0, .int .i64 0, .int .i64 0, .int .i64 0, .slice none 0 0, .slice none 0 0] 39 :: L)) (fun q => q.1) ((i7, [], t7, (none, 0))) ?_ ?_ ?_
     · exact ⟨rfl, trivial⟩
     · exact ⟨by simp; omega, e8, hs⟩
     clear hs; rintro x ξ w hI; obtain ⟨q, acc, st, s⟩ := x; obtain ⟨hq, hrl, hs⟩ := hI; simp only at hq hrl hs
     show cw _ _ _ _ _ _ (updL (mix _ ξ _) [(9, .int .u64 (q : Nat))]) w
     refine zA6 ?_; refine zA6 (zA1 ?_); refine zA rfl (zA0 (v := .int .u64 _) rfl) ?_; refine zA rfl (zBi rfl rfl) ?_; refine zA rfl (zA0 (v := .bool _) rfl) ?_; refine zBa (t := _) (d := 61) rfl ?_ ?_
     ·
      intro h60; have g60 := of_decide_eq_true h60; obtain ⟨q, rfl⟩ : ∃ q', q = q' + 1 := ⟨q - 1, by omega⟩; simp only [rdObs] at hrl; refine zAi rfl rfl h60 ?_; refine zA rfl (zA0 (v := .pointer (some _)) rfl) ?_; refine zAi rfl rfl h60 ?_; refine zAb rfl en70 (err_sl hs) ?_; clear hs; rintro _ w ⟨e63, rfl, hs⟩; refine zAi rfl rfl h60 ?_; refine zA rfl (run_eqE (ad := ad) rfl) ?_; refine zA rfl (zAj (v := .bool _) rfl h60 rfl) ?_; refine zA4 ?_; refine zB8 rfl ?_ ?_
      ·
       intro h64; have g64 := of_decide_eq_true h64; have hz0 := of_decide_eq_true h64; rw [if_neg (by omega)] at hrl; obtain ⟨nm, u1, v1⟩ : ∃ i t, bytG 64 B st = (i, t) := ⟨_, _, rfl⟩; obtain ⟨ln, u2, v2⟩ : ∃ i t, zEr mM B u1 = (i, t) := ⟨_, _, rfl⟩; obtain ⟨sm, u3, v3⟩ : ∃ i t, zEr 4294967295 B u2 = (i, t) := ⟨_, _, rfl⟩; simp only [v1, v2, v3] at hrl; have lv2 : ln ≤ 4611686018427387904 := zF3 v2; have lv3 := zF3 v3; refine zAf ?_; refine zA6 ?_; refine zAw ?_; refine zAy zBv (hs.suffix 5 rfl) ?_; intro w tr hK; replace hs := tr _ hs; clear tr; refine zA5 0 rfl rfl (fun w hs => zA3 (o' := 5) zBx rfl zCt rfl rfl rfl) hK ?_
       refine zA5 2 rfl rfl (fun w hs => zA0 (v := .pointer (some _)) rfl) hK ?_; refine zA5 5 rfl rfl (fun w hs => zA0 (v := .pointer (some _)) rfl) hK ?_; refine zA5 8 rfl rfl (fun w hs => zA0 (v := .pointer (some _)) rfl) hK ?_; refine zA9 [1, 3] ?_; refine ⟨⟨_, rfl, ?_⟩, ⟨_, rfl, ?_⟩, trivial⟩
       ·
        refine zA rfl (zA8 zBp rfl rfl (hs.cellAt 3 rfl rfl)) ?_; clear hK; have hK := (show Mem g w L from by first | exact hs.suffix 5 rfl | exact hs.suffix 6 rfl | exact hs.suffix 7 rfl); refine zA4 ⟨hK, ?_⟩; refine zA9 [3] ?_; refine ⟨⟨_, rfl, ?_⟩, trivial⟩; refine zAb rfl en112 (bytesG_sl (most := 64) hW hs (by omega) (by decide) v1) ?_; clear hs; rintro _ w ⟨⟨sa71, sc71⟩, rfl, hs⟩; replace hs := hs.arr [1, 0, 2, 3, 4, 5] 6 (by decide); clear hK; have hK := hs.suffix 6 rfl; refine zA4 ⟨hK, ?_⟩; refine zA9 [4, 6] ?_; refine ⟨⟨_, rfl, ?_⟩, ⟨_, rfl, ?_⟩, trivial⟩
        ·
         refine zA rfl (zDu (l := nm) zC0 uz5 uz9 rfl ((hs.rdOwn 1 rfl).seq hs)) ?_; clear hK; have hK := hs.suffix 6 rfl; refine zA4 ⟨hK, ?_⟩; refine zA9 [6] ?_; refine ⟨⟨_, rfl, ?_⟩, trivial⟩; refine zAb rfl zDr (zCo (most := 4611686018427387904) hW hs (by omega) v2) ?_; clear hs; rintro _ w ⟨rfl, hs⟩; clear hK; have hK := hs.suffix 6 rfl; refine zA4 ⟨hK, ?_⟩; refine zA5 7 rfl rfl (fun w hs => zAh zBj uz3 rfl (c := ((ln : Nat) : Int)) (zCp.wrap ⟨by omega, by omega⟩)) hK ?_; refine zA9 [9] ?_; refine ⟨⟨_, rfl, ?_⟩, trivial⟩; refine zAb rfl zDr (zCo (most := 4294967295) hW hs (by omega) v3) ?_; clear hs; rintro _ w ⟨rfl, hs⟩; clear hK; have hK := hs.suffix 6 rfl; refine zA4 ⟨hK, ?_⟩
         refine zA5 10 rfl rfl (fun w hs => zAh zBj zDg rfl (c := ((sm : Nat) : Int)) (by simp [IntKind.wrap, IntKind.bits, IntKind.signed]; omega)) hK ?_; refine zA5 11 rfl rfl (fun w hs => zB3 ([.string (zCy nm), .int .i64 ((ln : Nat) : Int), .int .u32 ((sm : Nat) : Int)]) zCl zDi zDt rfl (by simp [Value.cells]) rfl rfl) hK ?_; refine zA9 [12] ?_; refine ⟨⟨_, rfl, ?_⟩, trivial⟩; refine zAz hs rfl (row := obL (zCy nm, ((ln : Nat) : Int), sm)) zBp zsOb rfl (zBr (zCy nm) ((ln : Nat) : Int) sm) (by decide) (by decide) ?_; clear hs; intro b80 w hs; clear hK; have hK := hs.suffix 7 rfl; refine zA4 ⟨hK, ?_⟩; refine zA9 [13] ?_; refine ⟨⟨_, rfl, ?_⟩, trivial⟩
         refine zAv hs rfl 3 0 rfl rfl zBp zBp zD8 rfl rfl (by rfl) rfl rfl (by simp only [List.length_map]; omega) (by simp only [List.length_map]; omega) ?_; clear hs; intro a81 c81 w hs; simp only [List.set_cons_succ, List.set_cons_zero] at hs; clear hK; have hK := hs.suffix 7 rfl; refine zA4 ⟨hK, ?_⟩; refine zA5 14 rfl rfl (fun w hs => zA3 (o' := 5) zBx rfl zCt rfl rfl rfl) hK ?_; refine zA9 [15] ?_; refine ⟨⟨_, rfl, ?_⟩, trivial⟩; refine zAr (v := .slice _ _ _) hs 5 rfl zCt rfl rfl rfl rfl ?_; clear hs; intro w hs
         try simp only [List.set_cons_succ, List.set_cons_zero] at hs
         clear hK; have hK := hs.suffix 7 rfl; refine zA4 ⟨hK, ?_⟩; refine zAp (by kernel_rfl) ?_; clear hK; refine zA1 ?_; refine zA rfl (zA0 (v := .int .u64 _) rfl) ?_; refine zA rfl (zBo rfl rfl) ?_; refine zA rfl (zA2 (v := .int .u64 _) rfl) ?_; refine zA4 ?_
         have hw : IntKind.u64.wrap (((q + 1 : Nat) : Int) - 1) = ((q : Nat) : Int) := by rw [zB]; omega
         have hl : (acc.map obL).length + 1 = (acc ++ [(zCy nm, ((ln : Nat) : Int), sm)]).length := by simp
         rw [hl] at hs; exact ⟨(q, acc ++ [(zCy nm, ((ln : Nat) : Int), sm)], u3, (a81, c81)), by simp only; omega, ⟨by simp; omega, hrl, by simp only [List.map_append, List.map_cons, List.map_nil]; exact hs.arr [1, 3, 4, 5, 6] 7 (by decide)⟩, ⟨congrArg (Value.int .u64) hw, trivial⟩, by repeat (first | exact Out.mix _ _ _ | refine Out.updo rfl ?_ | refine Out.upd rfl ?_ | refine Out.mixIn rfl ?_)⟩
        ·
         refine zAb rfl zDr (zCo (most := 4611686018427387904) hW hs (by omega) v2) ?_; clear hs; rintro _ w ⟨rfl, hs⟩; clear hK; have hK := hs.suffix 6 rfl; refine zA4 ⟨hK, ?_⟩; refine zA5 7 rfl rfl (fun w hs => zAh zBj uz3 rfl (c := ((ln : Nat) : Int)) (zCp.wrap ⟨by omega, by omega⟩)) hK ?_; refine zA9 [4, 9] ?_; refine ⟨⟨_, rfl, ?_⟩, ⟨_, rfl, ?_⟩, trivial⟩
         ·
          refine zA rfl (zDu (l := nm) zC0 uz5 uz9 rfl ((hs.rdOwn 1 rfl).seq hs)) ?_; clear hK; have hK := hs.suffix 6 rfl; refine zA4 ⟨hK, ?_⟩; refine zA9 [9] ?_; refine ⟨⟨_, rfl, ?_⟩, trivial⟩; refine zAb rfl zDr (zCo (most := 4294967295) hW hs (by omega) v3) ?_; clear hs; rintro _ w ⟨rfl, hs⟩; clear hK; have hK := hs.suffix 6 rfl; refine zA4 ⟨hK, ?_⟩; refine zA5 10 rfl rfl (fun w hs => zAh zBj zDg rfl (c := ((sm : Nat) : Int)) (by simp [IntKind.wrap, IntKind.bits, IntKind.signed]; omega)) hK ?_; refine zA5 11 rfl rfl (fun w hs => zB3 ([.string (zCy nm), .int .i64 ((ln : Nat) : Int), .int .u32 ((sm : Nat) : Int)]) zCl zDi zDt rfl (by simp [Value.cells]) rfl rfl) hK ?_
          refine zA9 [12] ?_; refine ⟨⟨_, rfl, ?_⟩, trivial⟩; refine zAz hs rfl (row := obL (zCy nm, ((ln : Nat) : Int), sm)) zBp zsOb rfl (zBr (zCy nm) ((ln : Nat) : Int) sm) (by decide) (by decide) ?_; clear hs; intro b80 w hs; clear hK; have hK := hs.suffix 7 rfl; refine zA4 ⟨hK, ?_⟩; refine zA9 [13] ?_; refine ⟨⟨_, rfl, ?_⟩, trivial⟩; refine zAv hs rfl 3 0 rfl rfl zBp zBp zD8 rfl rfl (by rfl) rfl rfl (by simp only [List.length_map]; omega) (by simp only [List.length_map]; omega) ?_; clear hs; intro a81 c81 w hs; simp only [List.set_cons_succ, List.set_cons_zero] at hs; clear hK; have hK := hs.suffix 7 rfl; refine zA4 ⟨hK, ?_⟩
          refine zA5 14 rfl rfl (fun w hs => zA3 (o' := 5) zBx rfl zCt rfl rfl rfl) hK ?_; refine zA9 [15] ?_; refine ⟨⟨_, rfl, ?_⟩, trivial⟩; refine zAr (v := .slice _ _ _) hs 5 rfl zCt rfl rfl rfl rfl ?_; clear hs; intro w hs
          try simp only [List.set_cons_succ, List.set_cons_zero] at hs
          clear hK; have hK := hs.suffix 7 rfl; refine zA4 ⟨hK, ?_⟩; refine zAp (by kernel_rfl) ?_; clear hK; refine zA1 ?_; refine zA rfl (zA0 (v := .int .u64 _) rfl) ?_; refine zA rfl (zBo rfl rfl) ?_; refine zA rfl (zA2 (v := .int .u64 _) rfl) ?_; refine zA4 ?_
          have hw : IntKind.u64.wrap (((q + 1 : Nat) : Int) - 1) = ((q : Nat) : Int) := by rw [zB]; omega
          have hl : (acc.map obL).length + 1 = (acc ++ [(zCy nm, ((ln : Nat) : Int), sm)]).length := by simp
          rw [hl] at hs; exact ⟨(q, acc ++ [(zCy nm, ((ln : Nat) : Int), sm)], u3, (a81, c81)), by simp only; omega, ⟨by simp; omega, hrl, by simp only [List.map_append, List.map_cons, List.map_nil]; exact hs.arr [1, 3, 4, 5, 6] 7 (by decide)⟩, ⟨congrArg (Value.int .u64) hw, trivial⟩, by repeat (first | exact Out.mix _ _ _ | refine Out.updo rfl ?_ | refine Out.upd rfl ?_ | refine Out.mixIn rfl ?_)⟩
         ·
          refine zAb rfl zDr (zCo (most := 4294967295) hW hs (by omega) v3) ?_; clear hs; rintro _ w ⟨rfl, hs⟩; clear hK; have hK := hs.suffix 6 rfl; refine zA4 ⟨hK, ?_⟩; refine zA5 10 rfl rfl (fun w hs => zAh zBj zDg rfl (c := ((sm : Nat) : Int)) (by simp [IntKind.wrap, IntKind.bits, IntKind.signed]; omega)) hK ?_; refine zA9 [4] ?_; refine ⟨⟨_, rfl, ?_⟩, trivial⟩; refine zA rfl (zDu (l := nm) zC0 uz5 uz9 rfl ((hs.rdOwn 1 rfl).seq hs)) ?_; clear hK; have hK := hs.suffix 6 rfl; refine zA4 ⟨hK, ?_⟩; refine zA5 11 rfl rfl (fun w hs => zB3 ([.string (zCy nm), .int .i64 ((ln : Nat) : Int), .int .u32 ((sm : Nat) : Int)]) zCl zDi zDt rfl (by simp [Value.cells]) rfl rfl) hK ?_
          refine zA9 [12] ?_; refine ⟨⟨_, rfl, ?_⟩, trivial⟩; refine zAz hs rfl (row := obL (zCy nm, ((ln : Nat) : Int), sm)) zBp zsOb rfl (zBr (zCy nm) ((ln : Nat) : Int) sm) (by decide) (by decide) ?_; clear hs; intro b80 w hs; clear hK; have hK := hs.suffix 7 rfl; refine zA4 ⟨hK, ?_⟩; refine zA9 [13] ?_; refine ⟨⟨_, rfl, ?_⟩, trivial⟩; refine zAv hs rfl 3 0 rfl rfl zBp zBp zD8 rfl rfl (by rfl) rfl rfl (by simp only [List.length_map]; omega) (by simp only [List.length_map]; omega) ?_; clear hs; intro a81 c81 w hs; simp only [List.set_cons_succ, List.set_cons_zero] at hs; clear hK; have hK := hs.suffix 7 rfl; refine zA4 ⟨hK, ?_⟩
          refine zA5 14 rfl rfl (fun w hs => zA3 (o' := 5) zBx rfl zCt rfl rfl rfl) hK ?_; refine zA9 [15] ?_; refine ⟨⟨_, rfl, ?_⟩, trivial⟩; refine zAr (v := .slice _ _ _) hs 5 rfl zCt rfl rfl rfl rfl ?_; clear hs; intro w hs
          try simp only [List.set_cons_succ, List.set_cons_zero] at hs
          clear hK; have hK := hs.suffix 7 rfl; refine zA4 ⟨hK, ?_⟩; refine zAp (by kernel_rfl) ?_; clear hK; refine zA1 ?_; refine zA rfl (zA0 (v := .int .u64 _) rfl) ?_; refine zA rfl (zBo rfl rfl) ?_; refine zA rfl (zA2 (v := .int .u64 _) rfl) ?_; refine zA4 ?_
          have hw : IntKind.u64.wrap (((q + 1 : Nat) : Int) - 1) = ((q : Nat) : Int) := by rw [zB]; omega
          have hl : (acc.map obL).length + 1 = (acc ++ [(zCy nm, ((ln : Nat) : Int), sm)]).length := by simp
          rw [hl] at hs; exact ⟨(q, acc ++ [(zCy nm, ((ln : Nat) : Int), sm)], u3, (a81, c81)), by simp only; omega, ⟨by simp; omega, hrl, by simp only [List.map_append, List.map_cons, List.map_nil]; exact hs.arr [1, 3, 4, 5, 6] 7 (by decide)⟩, ⟨congrArg (Value.int .u64) hw, trivial⟩, by repeat (first | exact Out.mix _ _ _ | refine Out.updo rfl ?_ | refine Out.upd rfl ?_ | refine Out.mixIn rfl ?_)⟩
       ·
        refine zAb rfl en112 (bytesG_sl (most := 64) hW hs (by omega) (by decide) v1) ?_; clear hs; rintro _ w ⟨⟨sa71, sc71⟩, rfl, hs⟩; replace hs := hs.arr [1, 0, 2, 3, 4, 5] 6 (by decide); clear hK; have hK := hs.suffix 6 rfl; refine zA4 ⟨hK, ?_⟩; refine zA9 [1, 4, 6] ?_; refine ⟨⟨_, rfl, ?_⟩, ⟨_, rfl, ?_⟩, ⟨_, rfl, ?_⟩, trivial⟩
        ·
         refine zA rfl (zA8 zBp rfl rfl (hs.cellAt 4 rfl rfl)) ?_; clear hK; have hK := (show Mem g w L from by first | exact hs.suffix 5 rfl | exact hs.suffix 6 rfl | exact hs.suffix 7 rfl); refine zA4 ⟨hK, ?_⟩; refine zA9 [4, 6] ?_; refine ⟨⟨_, rfl, ?_⟩, ⟨_, rfl, ?_⟩, trivial⟩
         ·
          refine zA rfl (zDu (l := nm) zC0 uz5 uz9 rfl ((hs.rdOwn 1 rfl).seq hs)) ?_; clear hK; have hK := hs.suffix 6 rfl; refine zA4 ⟨hK, ?_⟩; refine zA9 [6] ?_; refine ⟨⟨_, rfl, ?_⟩, trivial⟩; refine zAb rfl zDr (zCo (most := 4611686018427387904) hW hs (by omega) v2) ?_; clear hs; rintro _ w ⟨rfl, hs⟩; clear hK; have hK := hs.suffix 6 rfl; refine zA4 ⟨hK, ?_⟩; refine zA5 7 rfl rfl (fun w hs => zAh zBj uz3 rfl (c := ((ln : Nat) : Int)) (zCp.wrap ⟨by omega, by omega⟩)) hK ?_; refine zA9 [9] ?_; refine ⟨⟨_, rfl, ?_⟩, trivial⟩; refine zAb rfl zDr (zCo (most := 4294967295) hW hs (by omega) v3) ?_; clear hs; rintro _ w ⟨rfl, hs⟩; clear hK; have hK := hs.suffix 6 rfl
          refine zA4 ⟨hK, ?_⟩; refine zA5 10 rfl rfl (fun w hs => zAh zBj zDg rfl (c := ((sm : Nat) : Int)) (by simp [IntKind.wrap, IntKind.bits, IntKind.signed]; omega)) hK ?_; refine zA5 11 rfl rfl (fun w hs => zB3 ([.string (zCy nm), .int .i64 ((ln : Nat) : Int), .int .u32 ((sm : Nat) : Int)]) zCl zDi zDt rfl (by simp [Value.cells]) rfl rfl) hK ?_; refine zA9 [12] ?_; refine ⟨⟨_, rfl, ?_⟩, trivial⟩; refine zAz hs rfl (row := obL (zCy nm, ((ln : Nat) : Int), sm)) zBp zsOb rfl (zBr (zCy nm) ((ln : Nat) : Int) sm) (by decide) (by decide) ?_; clear hs; intro b80 w hs; clear hK; have hK := hs.suffix 7 rfl; refine zA4 ⟨hK, ?_⟩; refine zA9 [13] ?_; refine ⟨⟨_, rfl, ?_⟩, trivial⟩
          refine zAv hs rfl 3 0 rfl rfl zBp zBp zD8 rfl rfl (by rfl) rfl rfl (by simp only [List.length_map]; omega) (by simp only [List.length_map]; omega) ?_; clear hs; intro a81 c81 w hs; simp only [List.set_cons_succ, List.set_cons_zero] at hs; clear hK; have hK := hs.suffix 7 rfl; refine zA4 ⟨hK, ?_⟩; refine zA5 14 rfl rfl (fun w hs => zA3 (o' := 5) zBx rfl zCt rfl rfl rfl) hK ?_; refine zA9 [15] ?_; refine ⟨⟨_, rfl, ?_⟩, trivial⟩; refine zAr (v := .slice _ _ _) hs 5 rfl zCt rfl rfl rfl rfl ?_; clear hs; intro w hs
          try simp only [List.set_cons_succ, List.set_cons_zero] at hs
          clear hK; have hK := hs.suffix 7 rfl; refine zA4 ⟨hK, ?_⟩; refine zAp (by kernel_rfl) ?_; clear hK; refine zA1 ?_; refine zA rfl (zA0 (v := .int .u64 _) rfl) ?_; refine zA rfl (zBo rfl rfl) ?_; refine zA rfl (zA2 (v := .int .u64 _) rfl) ?_; refine zA4 ?_
          have hw : IntKind.u64.wrap (((q + 1 : Nat) : Int) - 1) = ((q : Nat) : Int) := by rw [zB]; omega
          have hl : (acc.map obL).length + 1 = (acc ++ [(zCy nm, ((ln : Nat) : Int), sm)]).length := by simp
          rw [hl] at hs; exact ⟨(q, acc ++ [(zCy nm, ((ln : Nat) : Int), sm)], u3, (a81, c81)), by simp only; omega, ⟨by simp; omega, hrl, by simp only [List.map_append, List.map_cons, List.map_nil]; exact hs.arr [1, 3, 4, 5, 6] 7 (by decide)⟩, ⟨congrArg (Value.int .u64) hw, trivial⟩, by repeat (first | exact Out.mix _ _ _ | refine Out.updo rfl ?_ | refine Out.upd rfl ?_ | refine Out.mixIn rfl ?_)⟩
         ·
          refine zAb rfl zDr (zCo (most := 4611686018427387904) hW hs (by omega) v2) ?_; clear hs; rintro _ w ⟨rfl, hs⟩; clear hK; have hK := hs.suffix 6 rfl; refine zA4 ⟨hK, ?_⟩; refine zA5 7 rfl rfl (fun w hs => zAh zBj uz3 rfl (c := ((ln : Nat) : Int)) (zCp.wrap ⟨by omega, by omega⟩)) hK ?_; refine zA9 [4, 9] ?_; refine ⟨⟨_, rfl, ?_⟩, ⟨_, rfl, ?_⟩, trivial⟩
          ·
           refine zA rfl (zDu (l := nm) zC0 uz5 uz9 rfl ((hs.rdOwn 1 rfl).seq hs)) ?_; clear hK; have hK := hs.suffix 6 rfl; refine zA4 ⟨hK, ?_⟩; refine zA9 [9] ?_; refine ⟨⟨_, rfl, ?_⟩, trivial⟩; refine zAb rfl zDr (zCo (most := 4294967295) hW hs (by omega) v3) ?_; clear hs; rintro _ w ⟨rfl, hs⟩; clear hK; have hK := hs.suffix 6 rfl; refine zA4 ⟨hK, ?_⟩; refine zA5 10 rfl rfl (fun w hs => zAh zBj zDg rfl (c := ((sm : Nat) : Int)) (by simp [IntKind.wrap, IntKind.bits, IntKind.signed]; omega)) hK ?_; refine zA5 11 rfl rfl (fun w hs => zB3 ([.string (zCy nm), .int .i64 ((ln : Nat) : Int), .int .u32 ((sm : Nat) : Int)]) zCl zDi zDt rfl (by simp [Value.cells]) rfl rfl) hK ?_
           refine zA9 [12] ?_; refine ⟨⟨_, rfl, ?_⟩, trivial⟩; refine zAz hs rfl (row := obL (zCy nm, ((ln : Nat) : Int), sm)) zBp zsOb rfl (zBr (zCy nm) ((ln : Nat) : Int) sm) (by decide) (by decide) ?_; clear hs; intro b80 w hs; clear hK; have hK := hs.suffix 7 rfl; refine zA4 ⟨hK, ?_⟩; refine zA9 [13] ?_; refine ⟨⟨_, rfl, ?_⟩, trivial⟩; refine zAv hs rfl 3 0 rfl rfl zBp zBp zD8 rfl rfl (by rfl) rfl rfl (by simp only [List.length_map]; omega) (by simp only [List.length_map]; omega) ?_; clear hs; intro a81 c81 w hs; simp only [List.set_cons_succ, List.set_cons_zero] at hs; clear hK; have hK := hs.suffix 7 rfl; refine zA4 ⟨hK, ?_⟩
           refine zA5 14 rfl rfl (fun w hs => zA3 (o' := 5) zBx rfl zCt rfl rfl rfl) hK ?_; refine zA9 [15] ?_; refine ⟨⟨_, rfl, ?_⟩, trivial⟩; refine zAr (v := .slice _ _ _) hs 5 rfl zCt rfl rfl rfl rfl ?_; clear hs; intro w hs
           try simp only [List.set_cons_succ, List.set_cons_zero] at hs
           clear hK; have hK := hs.suffix 7 rfl; refine zA4 ⟨hK, ?_⟩; refine zAp (by kernel_rfl) ?_; clear hK; refine zA1 ?_; refine zA rfl (zA0 (v := .int .u64 _) rfl) ?_; refine zA rfl (zBo rfl rfl) ?_; refine zA rfl (zA2 (v := .int .u64 _) rfl) ?_; refine zA4 ?_
           have hw : IntKind.u64.wrap (((q + 1 : Nat) : Int) - 1) = ((q : Nat) : Int) := by rw [zB]; omega
           have hl : (acc.map obL).length + 1 = (acc ++ [(zCy nm, ((ln : Nat) : Int), sm)]).length := by simp
           rw [hl] at hs; exact ⟨(q, acc ++ [(zCy nm, ((ln : Nat) : Int), sm)], u3, (a81, c81)), by simp only; omega, ⟨by simp; omega, hrl, by simp only [List.map_append, List.map_cons, List.map_nil]; exact hs.arr [1, 3, 4, 5, 6] 7 (by decide)⟩, ⟨congrArg (Value.int .u64) hw, trivial⟩, by repeat (first | exact Out.mix _ _ _ | refine Out.updo rfl ?_ | refine Out.upd rfl ?_ | refine Out.mixIn rfl ?_)⟩
          ·
           refine zAb rfl zDr (zCo (most := 4294967295) hW hs (by omega) v3) ?_; clear hs; rintro _ w ⟨rfl, hs⟩; clear hK; have hK := hs.suffix 6 rfl; refine zA4 ⟨hK, ?_⟩; refine zA5 10 rfl rfl (fun w hs => zAh zBj zDg rfl (c := ((sm : Nat) : Int)) (by simp [IntKind.wrap, IntKind.bits, IntKind.signed]; omega)) hK ?_; refine zA9 [4] ?_; refine ⟨⟨_, rfl, ?_⟩, trivial⟩; refine zA rfl (zDu (l := nm) zC0 uz5 uz9 rfl ((hs.rdOwn 1 rfl).seq hs)) ?_; clear hK; have hK := hs.suffix 6 rfl; refine zA4 ⟨hK, ?_⟩; refine zA5 11 rfl rfl (fun w hs => zB3 ([.string (zCy nm), .int .i64 ((ln : Nat) : Int), .int .u32 ((sm : Nat) : Int)]) zCl zDi zDt rfl (by simp [Value.cells]) rfl rfl) hK ?_
           refine zA9 [12] ?_; refine ⟨⟨_, rfl, ?_⟩, trivial⟩; refine zAz hs rfl (row := obL (zCy nm, ((ln : Nat) : Int), sm)) zBp zsOb rfl (zBr (zCy nm) ((ln : Nat) : Int) sm) (by decide) (by decide) ?_; clear hs; intro b80 w hs; clear hK; have hK := hs.suffix 7 rfl; refine zA4 ⟨hK, ?_⟩; refine zA9 [13] ?_; refine ⟨⟨_, rfl, ?_⟩, trivial⟩; refine zAv hs rfl 3 0 rfl rfl zBp zBp zD8 rfl rfl (by rfl) rfl rfl (by simp only [List.length_map]; omega) (by simp only [List.length_map]; omega) ?_; clear hs; intro a81 c81 w hs; simp only [List.set_cons_succ, List.set_cons_zero] at hs; clear hK; have hK := hs.suffix 7 rfl; refine zA4 ⟨hK, ?_⟩
           refine zA5 14 rfl rfl (fun w hs => zA3 (o' := 5) zBx rfl zCt rfl rfl rfl) hK ?_; refine zA9 [15] ?_; refine ⟨⟨_, rfl, ?_⟩, trivial⟩; refine zAr (v := .slice _ _ _) hs 5 rfl zCt rfl rfl rfl rfl ?_; clear hs; intro w hs
           try simp only [List.set_cons_succ, List.set_cons_zero] at hs
           clear hK; have hK := hs.suffix 7 rfl; refine zA4 ⟨hK, ?_⟩; refine zAp (by kernel_rfl) ?_; clear hK; refine zA1 ?_; refine zA rfl (zA0 (v := .int .u64 _) rfl) ?_; refine zA rfl (zBo rfl rfl) ?_; refine zA rfl (zA2 (v := .int .u64 _) rfl) ?_; refine zA4 ?_
           have hw : IntKind.u64.wrap (((q + 1 : Nat) : Int) - 1) = ((q : Nat) : Int) := by rw [zB]; omega
           have hl : (acc.map obL).length + 1 = (acc ++ [(zCy nm, ((ln : Nat) : Int), sm)]).length := by simp
           rw [hl] at hs; exact ⟨(q, acc ++ [(zCy nm, ((ln : Nat) : Int), sm)], u3, (a81, c81)), by simp only; omega, ⟨by simp; omega, hrl, by simp only [List.map_append, List.map_cons, List.map_nil]; exact hs.arr [1, 3, 4, 5, 6] 7 (by decide)⟩, ⟨congrArg (Value.int .u64) hw, trivial⟩, by repeat (first | exact Out.mix _ _ _ | refine Out.updo rfl ?_ | refine Out.upd rfl ?_ | refine Out.mixIn rfl ?_)⟩
        ·
         refine zA rfl (zDu (l := nm) zC0 uz5 uz9 rfl ((hs.rdOwn 1 rfl).seq hs)) ?_; clear hK; have hK := hs.suffix 6 rfl; refine zA4 ⟨hK, ?_⟩; refine zA9 [1, 6] ?_; refine ⟨⟨_, rfl, ?_⟩, ⟨_, rfl, ?_⟩, trivial⟩
         ·
          refine zA rfl (zA8 zBp rfl rfl (hs.cellAt 4 rfl rfl)) ?_; clear hK; have hK := (show Mem g w L from by first | exact hs.suffix 5 rfl | exact hs.suffix 6 rfl | exact hs.suffix 7 rfl); refine zA4 ⟨hK, ?_⟩; refine zA9 [6] ?_; refine ⟨⟨_, rfl, ?_⟩, trivial⟩; refine zAb rfl zDr (zCo (most := 4611686018427387904) hW hs (by omega) v2) ?_; clear hs; rintro _ w ⟨rfl, hs⟩; clear hK; have hK := hs.suffix 6 rfl; refine zA4 ⟨hK, ?_⟩; refine zA5 7 rfl rfl (fun w hs => zAh zBj uz3 rfl (c := ((ln : Nat) : Int)) (zCp.wrap ⟨by omega, by omega⟩)) hK ?_; refine zA9 [9] ?_; refine ⟨⟨_, rfl, ?_⟩, trivial⟩; refine zAb rfl zDr (zCo (most := 4294967295) hW hs (by omega) v3) ?_; clear hs
          rintro _ w ⟨rfl, hs⟩; clear hK; have hK := hs.suffix 6 rfl; refine zA4 ⟨hK, ?_⟩; refine zA5 10 rfl rfl (fun w hs => zAh zBj zDg rfl (c := ((sm : Nat) : Int)) (by simp [IntKind.wrap, IntKind.bits, IntKind.signed]; omega)) hK ?_; refine zA5 11 rfl rfl (fun w hs => zB3 ([.string (zCy nm), .int .i64 ((ln : Nat) : Int), .int .u32 ((sm : Nat) : Int)]) zCl zDi zDt rfl (by simp [Value.cells]) rfl rfl) hK ?_; refine zA9 [12] ?_; refine ⟨⟨_, rfl, ?_⟩, trivial⟩; refine zAz hs rfl (row := obL (zCy nm, ((ln : Nat) : Int), sm)) zBp zsOb rfl (zBr (zCy nm) ((ln : Nat) : Int) sm) (by decide) (by decide) ?_; clear hs; intro b80 w hs; clear hK; have hK := hs.suffix 7 rfl; refine zA4 ⟨hK, ?_⟩
          refine zA9 [13] ?_; refine ⟨⟨_, rfl, ?_⟩, trivial⟩; refine zAv hs rfl 3 0 rfl rfl zBp zBp zD8 rfl rfl (by rfl) rfl rfl (by simp only [List.length_map]; omega) (by simp only [List.length_map]; omega) ?_; clear hs; intro a81 c81 w hs; simp only [List.set_cons_succ, List.set_cons_zero] at hs; clear hK; have hK := hs.suffix 7 rfl; refine zA4 ⟨hK, ?_⟩; refine zA5 14 rfl rfl (fun w hs => zA3 (o' := 5) zBx rfl zCt rfl rfl rfl) hK ?_; refine zA9 [15] ?_; refine ⟨⟨_, rfl, ?_⟩, trivial⟩; refine zAr (v := .slice _ _ _) hs 5 rfl zCt rfl rfl rfl rfl ?_; clear hs; intro w hs
          try simp only [List.set_cons_succ, List.set_cons_zero] at hs
          clear hK; have hK := hs.suffix 7 rfl; refine zA4 ⟨hK, ?_⟩; refine zAp (by kernel_rfl) ?_; clear hK; refine zA1 ?_; refine zA rfl (zA0 (v := .int .u64 _) rfl) ?_; refine zA rfl (zBo rfl rfl) ?_; refine zA rfl (zA2 (v := .int .u64 _) rfl) ?_; refine zA4 ?_
          have hw : IntKind.u64.wrap (((q + 1 : Nat) : Int) - 1) = ((q : Nat) : Int) := by rw [zB]; omega
          have hl : (acc.map obL).length + 1 = (acc ++ [(zCy nm, ((ln : Nat) : Int), sm)]).length := by simp
          rw [hl] at hs; exact ⟨(q, acc ++ [(zCy nm, ((ln : Nat) : Int), sm)], u3, (a81, c81)), by simp only; omega, ⟨by simp; omega, hrl, by simp only [List.map_append, List.map_cons, List.map_nil]; exact hs.arr [1, 3, 4, 5, 6] 7 (by decide)⟩, ⟨congrArg (Value.int .u64) hw, trivial⟩, by repeat (first | exact Out.mix _ _ _ | refine Out.updo rfl ?_ | refine Out.upd rfl ?_ | refine Out.mixIn rfl ?_)⟩
         ·
          refine zAb rfl zDr (zCo (most := 4611686018427387904) hW hs (by omega) v2) ?_; clear hs; rintro _ w ⟨rfl, hs⟩; clear hK; have hK := hs.suffix 6 rfl; refine zA4 ⟨hK, ?_⟩; refine zA5 7 rfl rfl (fun w hs => zAh zBj uz3 rfl (c := ((ln : Nat) : Int)) (zCp.wrap ⟨by omega, by omega⟩)) hK ?_; refine zA9 [1, 9] ?_; refine ⟨⟨_, rfl, ?_⟩, ⟨_, rfl, ?_⟩, trivial⟩
          ·
           refine zA rfl (zA8 zBp rfl rfl (hs.cellAt 4 rfl rfl)) ?_; clear hK; have hK := (show Mem g w L from by first | exact hs.suffix 5 rfl | exact hs.suffix 6 rfl | exact hs.suffix 7 rfl); refine zA4 ⟨hK, ?_⟩; refine zA9 [9] ?_; refine ⟨⟨_, rfl, ?_⟩, trivial⟩; refine zAb rfl zDr (zCo (most := 4294967295) hW hs (by omega) v3) ?_; clear hs; rintro _ w ⟨rfl, hs⟩; clear hK; have hK := hs.suffix 6 rfl; refine zA4 ⟨hK, ?_⟩; refine zA5 10 rfl rfl (fun w hs => zAh zBj zDg rfl (c := ((sm : Nat) : Int)) (by simp [IntKind.wrap, IntKind.bits, IntKind.signed]; omega)) hK ?_
           refine zA5 11 rfl rfl (fun w hs => zB3 ([.string (zCy nm), .int .i64 ((ln : Nat) : Int), .int .u32 ((sm : Nat) : Int)]) zCl zDi zDt rfl (by simp [Value.cells]) rfl rfl) hK ?_; refine zA9 [12] ?_; refine ⟨⟨_, rfl, ?_⟩, trivial⟩; refine zAz hs rfl (row := obL (zCy nm, ((ln : Nat) : Int), sm)) zBp zsOb rfl (zBr (zCy nm) ((ln : Nat) : Int) sm) (by decide) (by decide) ?_; clear hs; intro b80 w hs; clear hK; have hK := hs.suffix 7 rfl; refine zA4 ⟨hK, ?_⟩; refine zA9 [13] ?_; refine ⟨⟨_, rfl, ?_⟩, trivial⟩; refine zAv hs rfl 3 0 rfl rfl zBp zBp zD8 rfl rfl (by rfl) rfl rfl (by simp only [List.length_map]; omega) (by simp only [List.length_map]; omega) ?_; clear hs
           intro a81 c81 w hs; simp only [List.set_cons_succ, List.set_cons_zero] at hs; clear hK; have hK := hs.suffix 7 rfl; refine zA4 ⟨hK, ?_⟩; refine zA5 14 rfl rfl (fun w hs => zA3 (o' := 5) zBx rfl zCt rfl rfl rfl) hK ?_; refine zA9 [15] ?_; refine ⟨⟨_, rfl, ?_⟩, trivial⟩; refine zAr (v := .slice _ _ _) hs 5 rfl zCt rfl rfl rfl rfl ?_; clear hs; intro w hs
           try simp only [List.set_cons_succ, List.set_cons_zero] at hs
           clear hK; have hK := hs.suffix 7 rfl; refine zA4 ⟨hK, ?_⟩; refine zAp (by kernel_rfl) ?_; clear hK; refine zA1 ?_; refine zA rfl (zA0 (v := .int .u64 _) rfl) ?_; refine zA rfl (zBo rfl rfl) ?_; refine zA rfl (zA2 (v := .int .u64 _) rfl) ?_; refine zA4 ?_
           have hw : IntKind.u64.wrap (((q + 1 : Nat) : Int) - 1) = ((q : Nat) : Int) := by rw [zB]; omega
           have hl : (acc.map obL).length + 1 = (acc ++ [(zCy nm, ((ln : Nat) : Int), sm)]).length := by simp
           rw [hl] at hs; exact ⟨(q, acc ++ [(zCy nm, ((ln : Nat) : Int), sm)], u3, (a81, c81)), by simp only; omega, ⟨by simp; omega, hrl, by simp only [List.map_append, List.map_cons, List.map_nil]; exact hs.arr [1, 3, 4, 5, 6] 7 (by decide)⟩, ⟨congrArg (Value.int .u64) hw, trivial⟩, by repeat (first | exact Out.mix _ _ _ | refine Out.updo rfl ?_ | refine Out.upd rfl ?_ | refine Out.mixIn rfl ?_)⟩
          ·
           refine zAb rfl zDr (zCo (most := 4294967295) hW hs (by omega) v3) ?_; clear hs; rintro _ w ⟨rfl, hs⟩; clear hK; have hK := hs.suffix 6 rfl; refine zA4 ⟨hK, ?_⟩; refine zA5 10 rfl rfl (fun w hs => zAh zBj zDg rfl (c := ((sm : Nat) : Int)) (by simp [IntKind.wrap, IntKind.bits, IntKind.signed]; omega)) hK ?_; refine zA5 11 rfl rfl (fun w hs => zB3 ([.string (zCy nm), .int .i64 ((ln : Nat) : Int), .int .u32 ((sm : Nat) : Int)]) zCl zDi zDt rfl (by simp [Value.cells]) rfl rfl) hK ?_; refine zA9 [1, 12] ?_; refine ⟨⟨_, rfl, ?_⟩, ⟨_, rfl, ?_⟩, trivial⟩
           ·
            refine zA rfl (zA8 zBp rfl rfl (hs.cellAt 4 rfl rfl)) ?_; clear hK; have hK := (show Mem g w L from by first | exact hs.suffix 5 rfl | exact hs.suffix 6 rfl | exact hs.suffix 7 rfl); refine zA4 ⟨hK, ?_⟩; refine zA9 [12] ?_; refine ⟨⟨_, rfl, ?_⟩, trivial⟩; refine zAz hs rfl (row := obL (zCy nm, ((ln : Nat) : Int), sm)) zBp zsOb rfl (zBr (zCy nm) ((ln : Nat) : Int) sm) (by decide) (by decide) ?_; clear hs; intro b80 w hs; clear hK; have hK := hs.suffix 7 rfl; refine zA4 ⟨hK, ?_⟩; refine zA9 [13] ?_; refine ⟨⟨_, rfl, ?_⟩, trivial⟩
            refine zAv hs rfl 3 0 rfl rfl zBp zBp zD8 rfl rfl (by rfl) rfl rfl (by simp only [List.length_map]; omega) (by simp only [List.length_map]; omega) ?_; clear hs; intro a81 c81 w hs; simp only [List.set_cons_succ, List.set_cons_zero] at hs; clear hK; have hK := hs.suffix 7 rfl; refine zA4 ⟨hK, ?_⟩; refine zA5 14 rfl rfl (fun w hs => zA3 (o' := 5) zBx rfl zCt rfl rfl rfl) hK ?_; refine zA9 [15] ?_; refine ⟨⟨_, rfl, ?_⟩, trivial⟩; refine zAr (v := .slice _ _ _) hs 5 rfl zCt rfl rfl rfl rfl ?_; clear hs; intro w hs
            try simp only [List.set_cons_succ, List.set_cons_zero] at hs
            clear hK; have hK := hs.suffix 7 rfl; refine zA4 ⟨hK, ?_⟩; refine zAp (by kernel_rfl) ?_; clear hK; refine zA1 ?_; refine zA rfl (zA0 (v := .int .u64 _) rfl) ?_; refine zA rfl (zBo rfl rfl) ?_; refine zA rfl (zA2 (v := .int .u64 _) rfl) ?_; refine zA4 ?_
            have hw : IntKind.u64.wrap (((q + 1 : Nat) : Int) - 1) = ((q : Nat) : Int) := by rw [zB]; omega
            have hl : (acc.map obL).length + 1 = (acc ++ [(zCy nm, ((ln : Nat) : Int), sm)]).length := by simp
            rw [hl] at hs; exact ⟨(q, acc ++ [(zCy nm, ((ln : Nat) : Int), sm)], u3, (a81, c81)), by simp only; omega, ⟨by simp; omega, hrl, by simp only [List.map_append, List.map_cons, List.map_nil]; exact hs.arr [1, 3, 4, 5, 6] 7 (by decide)⟩, ⟨congrArg (Value.int .u64) hw, trivial⟩, by repeat (first | exact Out.mix _ _ _ | refine Out.updo rfl ?_ | refine Out.upd rfl ?_ | refine Out.mixIn rfl ?_)⟩
           ·
            refine zAz hs rfl (row := obL (zCy nm, ((ln : Nat) : Int), sm)) zBp zsOb rfl (zBr (zCy nm) ((ln : Nat) : Int) sm) (by decide) (by decide) ?_; clear hs; intro b80 w hs; clear hK; have hK := hs.suffix 7 rfl; refine zA4 ⟨hK, ?_⟩; refine zA9 [1] ?_; refine ⟨⟨_, rfl, ?_⟩, trivial⟩; refine zA rfl (zA8 zBp rfl rfl (hs.cellAt 5 rfl rfl)) ?_; clear hK; have hK := (show Mem g w L from by first | exact hs.suffix 5 rfl | exact hs.suffix 6 rfl | exact hs.suffix 7 rfl); refine zA4 ⟨hK, ?_⟩; refine zA9 [13] ?_; refine ⟨⟨_, rfl, ?_⟩, trivial⟩
            refine zAv hs rfl 3 0 rfl rfl zBp zBp zD8 rfl rfl (by rfl) rfl rfl (by simp only [List.length_map]; omega) (by simp only [List.length_map]; omega) ?_; clear hs; intro a81 c81 w hs; simp only [List.set_cons_succ, List.set_cons_zero] at hs; clear hK; have hK := hs.suffix 7 rfl; refine zA4 ⟨hK, ?_⟩; refine zA5 14 rfl rfl (fun w hs => zA3 (o' := 5) zBx rfl zCt rfl rfl rfl) hK ?_; refine zA9 [15] ?_; refine ⟨⟨_, rfl, ?_⟩, trivial⟩; refine zAr (v := .slice _ _ _) hs 5 rfl zCt rfl rfl rfl rfl ?_; clear hs; intro w hs
            try simp only [List.set_cons_succ, List.set_cons_zero] at hs
            clear hK; have hK := hs.suffix 7 rfl; refine zA4 ⟨hK, ?_⟩; refine zAp (by kernel_rfl) ?_; clear hK; refine zA1 ?_; refine zA rfl (zA0 (v := .int .u64 _) rfl) ?_; refine zA rfl (zBo rfl rfl) ?_; refine zA rfl (zA2 (v := .int .u64 _) rfl) ?_; refine zA4 ?_
            have hw : IntKind.u64.wrap (((q + 1 : Nat) : Int) - 1) = ((q : Nat) : Int) := by rw [zB]; omega
            have hl : (acc.map obL).length + 1 = (acc ++ [(zCy nm, ((ln : Nat) : Int), sm)]).length := by simp
            rw [hl] at hs; exact ⟨(q, acc ++ [(zCy nm, ((ln : Nat) : Int), sm)], u3, (a81, c81)), by simp only; omega, ⟨by simp; omega, hrl, by simp only [List.map_append, List.map_cons, List.map_nil]; exact hs.arr [1, 3, 4, 5, 6] 7 (by decide)⟩, ⟨congrArg (Value.int .u64) hw, trivial⟩, by repeat (first | exact Out.mix _ _ _ | refine Out.updo rfl ?_ | refine Out.upd rfl ?_ | refine Out.mixIn rfl ?_)⟩
        ·
         refine zAb rfl zDr (zCo (most := 4611686018427387904) hW hs (by omega) v2) ?_; clear hs; rintro _ w ⟨rfl, hs⟩; clear hK; have hK := hs.suffix 6 rfl; refine zA4 ⟨hK, ?_⟩; refine zA5 7 rfl rfl (fun w hs => zAh zBj uz3 rfl (c := ((ln : Nat) : Int)) (zCp.wrap ⟨by omega, by omega⟩)) hK ?_; refine zA9 [1, 4, 9] ?_; refine ⟨⟨_, rfl, ?_⟩, ⟨_, rfl, ?_⟩, ⟨_, rfl, ?_⟩, trivial⟩
         ·
          refine zA rfl (zA8 zBp rfl rfl (hs.cellAt 4 rfl rfl)) ?_; clear hK; have hK := (show Mem g w L from by first | exact hs.suffix 5 rfl | exact hs.suffix 6 rfl | exact hs.suffix 7 rfl); refine zA4 ⟨hK, ?_⟩; refine zA9 [4, 9] ?_; refine ⟨⟨_, rfl, ?_⟩, ⟨_, rfl, ?_⟩, trivial⟩
          ·
           refine zA rfl (zDu (l := nm) zC0 uz5 uz9 rfl ((hs.rdOwn 1 rfl).seq hs)) ?_; clear hK; have hK := hs.suffix 6 rfl; refine zA4 ⟨hK, ?_⟩; refine zA9 [9] ?_; refine ⟨⟨_, rfl, ?_⟩, trivial⟩; refine zAb rfl zDr (zCo (most := 4294967295) hW hs (by omega) v3) ?_; clear hs; rintro _ w ⟨rfl, hs⟩; clear hK; have hK := hs.suffix 6 rfl; refine zA4 ⟨hK, ?_⟩; refine zA5 10 rfl rfl (fun w hs => zAh zBj zDg rfl (c := ((sm : Nat) : Int)) (by simp [IntKind.wrap, IntKind.bits, IntKind.signed]; omega)) hK ?_; refine zA5 11 rfl rfl (fun w hs => zB3 ([.string (zCy nm), .int .i64 ((ln : Nat) : Int), .int .u32 ((sm : Nat) : Int)]) zCl zDi zDt rfl (by simp [Value.cells]) rfl rfl) hK ?_
           refine zA9 [12] ?_; refine ⟨⟨_, rfl, ?_⟩, trivial⟩; refine zAz hs rfl (row := obL (zCy nm, ((ln : Nat) : Int), sm)) zBp zsOb rfl (zBr (zCy nm) ((ln : Nat) : Int) sm) (by decide) (by decide) ?_; clear hs; intro b80 w hs; clear hK; have hK := hs.suffix 7 rfl; refine zA4 ⟨hK, ?_⟩; refine zA9 [13] ?_; refine ⟨⟨_, rfl, ?_⟩, trivial⟩; refine zAv hs rfl 3 0 rfl rfl zBp zBp zD8 rfl rfl (by rfl) rfl rfl (by simp only [List.length_map]; omega) (by simp only [List.length_map]; omega) ?_; clear hs; intro a81 c81 w hs; simp only [List.set_cons_succ, List.set_cons_zero] at hs; clear hK; have hK := hs.suffix 7 rfl; refine zA4 ⟨hK, ?_⟩
           refine zA5 14 rfl rfl (fun w hs => zA3 (o' := 5) zBx rfl zCt rfl rfl rfl) hK ?_; refine zA9 [15] ?_; refine ⟨⟨_, rfl, ?_⟩, trivial⟩; refine zAr (v := .slice _ _ _) hs 5 rfl zCt rfl rfl rfl rfl ?_; clear hs; intro w hs
           try simp only [List.set_cons_succ, List.set_cons_zero] at hs
           clear hK; have hK := hs.suffix 7 rfl; refine zA4 ⟨hK, ?_⟩; refine zAp (by kernel_rfl) ?_; clear hK; refine zA1 ?_; refine zA rfl (zA0 (v := .int .u64 _) rfl) ?_; refine zA rfl (zBo rfl rfl) ?_; refine zA rfl (zA2 (v := .int .u64 _) rfl) ?_; refine zA4 ?_
           have hw : IntKind.u64.wrap (((q + 1 : Nat) : Int) - 1) = ((q : Nat) : Int) := by rw [zB]; omega
           have hl : (acc.map obL).length + 1 = (acc ++ [(zCy nm, ((ln : Nat) : Int), sm)]).length := by simp
           rw [hl] at hs; exact ⟨(q, acc ++ [(zCy nm, ((ln : Nat) : Int), sm)], u3, (a81, c81)), by simp only; omega, ⟨by simp; omega, hrl, by simp only [List.map_append, List.map_cons, List.map_nil]; exact hs.arr [1, 3, 4, 5, 6] 7 (by decide)⟩, ⟨congrArg (Value.int .u64) hw, trivial⟩, by repeat (first | exact Out.mix _ _ _ | refine Out.updo rfl ?_ | refine Out.upd rfl ?_ | refine Out.mixIn rfl ?_)⟩
          ·
           refine zAb rfl zDr (zCo (most := 4294967295) hW hs (by omega) v3) ?_; clear hs; rintro _ w ⟨rfl, hs⟩; clear hK; have hK := hs.suffix 6 rfl; refine zA4 ⟨hK, ?_⟩; refine zA5 10 rfl rfl (fun w hs => zAh zBj zDg rfl (c := ((sm : Nat) : Int)) (by simp [IntKind.wrap, IntKind.bits, IntKind.signed]; omega)) hK ?_; refine zA9 [4] ?_; refine ⟨⟨_, rfl, ?_⟩, trivial⟩; refine zA rfl (zDu (l := nm) zC0 uz5 uz9 rfl ((hs.rdOwn 1 rfl).seq hs)) ?_; clear hK; have hK := hs.suffix 6 rfl; refine zA4 ⟨hK, ?_⟩; refine zA5 11 rfl rfl (fun w hs => zB3 ([.string (zCy nm), .int .i64 ((ln : Nat) : Int), .int .u32 ((sm : Nat) : Int)]) zCl zDi zDt rfl (by simp [Value.cells]) rfl rfl) hK ?_
           refine zA9 [12] ?_; refine ⟨⟨_, rfl, ?_⟩, trivial⟩; refine zAz hs rfl (row := obL (zCy nm, ((ln : Nat) : Int), sm)) zBp zsOb rfl (zBr (zCy nm) ((ln : Nat) : Int) sm) (by decide) (by decide) ?_; clear hs; intro b80 w hs; clear hK; have hK := hs.suffix 7 rfl; refine zA4 ⟨hK, ?_⟩; refine zA9 [13] ?_; refine ⟨⟨_, rfl, ?_⟩, trivial⟩; refine zAv hs rfl 3 0 rfl rfl zBp zBp zD8 rfl rfl (by rfl) rfl rfl (by simp only [List.length_map]; omega) (by simp only [List.length_map]; omega) ?_; clear hs; intro a81 c81 w hs; simp only [List.set_cons_succ, List.set_cons_zero] at hs; clear hK; have hK := hs.suffix 7 rfl; refine zA4 ⟨hK, ?_⟩
           refine zA5 14 rfl rfl (fun w hs => zA3 (o' := 5) zBx rfl zCt rfl rfl rfl) hK ?_; refine zA9 [15] ?_; refine ⟨⟨_, rfl, ?_⟩, trivial⟩; refine zAr (v := .slice _ _ _) hs 5 rfl zCt rfl rfl rfl rfl ?_; clear hs; intro w hs
           try simp only [List.set_cons_succ, List.set_cons_zero] at hs
           clear hK; have hK := hs.suffix 7 rfl; refine zA4 ⟨hK, ?_⟩; refine zAp (by kernel_rfl) ?_; clear hK; refine zA1 ?_; refine zA rfl (zA0 (v := .int .u64 _) rfl) ?_; refine zA rfl (zBo rfl rfl) ?_; refine zA rfl (zA2 (v := .int .u64 _) rfl) ?_; refine zA4 ?_
           have hw : IntKind.u64.wrap (((q + 1 : Nat) : Int) - 1) = ((q : Nat) : Int) := by rw [zB]; omega
           have hl : (acc.map obL).length + 1 = (acc ++ [(zCy nm, ((ln : Nat) : Int), sm)]).length := by simp
           rw [hl] at hs; exact ⟨(q, acc ++ [(zCy nm, ((ln : Nat) : Int), sm)], u3, (a81, c81)), by simp only; omega, ⟨by simp; omega, hrl, by simp only [List.map_append, List.map_cons, List.map_nil]; exact hs.arr [1, 3, 4, 5, 6] 7 (by decide)⟩, ⟨congrArg (Value.int .u64) hw, trivial⟩, by repeat (first | exact Out.mix _ _ _ | refine Out.updo rfl ?_ | refine Out.upd rfl ?_ | refine Out.mixIn rfl ?_)⟩
         ·
          refine zA rfl (zDu (l := nm) zC0 uz5 uz9 rfl ((hs.rdOwn 1 rfl).seq hs)) ?_; clear hK; have hK := hs.suffix 6 rfl; refine zA4 ⟨hK, ?_⟩; refine zA9 [1, 9] ?_; refine ⟨⟨_, rfl, ?_⟩, ⟨_, rfl, ?_⟩, trivial⟩
          ·
           refine zA rfl (zA8 zBp rfl rfl (hs.cellAt 4 rfl rfl)) ?_; clear hK; have hK := (show Mem g w L from by first | exact hs.suffix 5 rfl | exact hs.suffix 6 rfl | exact hs.suffix 7 rfl); refine zA4 ⟨hK, ?_⟩; refine zA9 [9] ?_; refine ⟨⟨_, rfl, ?_⟩, trivial⟩; refine zAb rfl zDr (zCo (most := 4294967295) hW hs (by omega) v3) ?_; clear hs; rintro _ w ⟨rfl, hs⟩; clear hK; have hK := hs.suffix 6 rfl; refine zA4 ⟨hK, ?_⟩; refine zA5 10 rfl rfl (fun w hs => zAh zBj zDg rfl (c := ((sm : Nat) : Int)) (by simp [IntKind.wrap, IntKind.bits, IntKind.signed]; omega)) hK ?_
           refine zA5 11 rfl rfl (fun w hs => zB3 ([.string (zCy nm), .int .i64 ((ln : Nat) : Int), .int .u32 ((sm : Nat) : Int)]) zCl zDi zDt rfl (by simp [Value.cells]) rfl rfl) hK ?_; refine zA9 [12] ?_; refine ⟨⟨_, rfl, ?_⟩, trivial⟩; refine zAz hs rfl (row := obL (zCy nm, ((ln : Nat) : Int), sm)) zBp zsOb rfl (zBr (zCy nm) ((ln : Nat) : Int) sm) (by decide) (by decide) ?_; clear hs; intro b80 w hs; clear hK; have hK := hs.suffix 7 rfl; refine zA4 ⟨hK, ?_⟩; refine zA9 [13] ?_; refine ⟨⟨_, rfl, ?_⟩, trivial⟩; refine zAv hs rfl 3 0 rfl rfl zBp zBp zD8 rfl rfl (by rfl) rfl rfl (by simp only [List.length_map]; omega) (by simp only [List.length_map]; omega) ?_; clear hs
           intro a81 c81 w hs; simp only [List.set_cons_succ, List.set_cons_zero] at hs; clear hK; have hK := hs.suffix 7 rfl; refine zA4 ⟨hK, ?_⟩; refine zA5 14 rfl rfl (fun w hs => zA3 (o' := 5) zBx rfl zCt rfl rfl rfl) hK ?_; refine zA9 [15] ?_; refine ⟨⟨_, rfl, ?_⟩, trivial⟩; refine zAr (v := .slice _ _ _) hs 5 rfl zCt rfl rfl rfl rfl ?_; clear hs; intro w hs
           try simp only [List.set_cons_succ, List.set_cons_zero] at hs
           clear hK; have hK := hs.suffix 7 rfl; refine zA4 ⟨hK, ?_⟩; refine zAp (by kernel_rfl) ?_; clear hK; refine zA1 ?_; refine zA rfl (zA0 (v := .int .u64 _) rfl) ?_; refine zA rfl (zBo rfl rfl) ?_; refine zA rfl (zA2 (v := .int .u64 _) rfl) ?_; refine zA4 ?_
           have hw : IntKind.u64.wrap (((q + 1 : Nat) : Int) - 1) = ((q : Nat) : Int) := by rw [zB]; omega
           have hl : (acc.map obL).length + 1 = (acc ++ [(zCy nm, ((ln : Nat) : Int), sm)]).length := by simp
           rw [hl] at hs; exact ⟨(q, acc ++ [(zCy nm, ((ln : Nat) : Int), sm)], u3, (a81, c81)), by simp only; omega, ⟨by simp; omega, hrl, by simp only [List.map_append, List.map_cons, List.map_nil]; exact hs.arr [1, 3, 4, 5, 6] 7 (by decide)⟩, ⟨congrArg (Value.int .u64) hw, trivial⟩, by repeat (first | exact Out.mix _ _ _ | refine Out.updo rfl ?_ | refine Out.upd rfl ?_ | refine Out.mixIn rfl ?_)⟩
          ·
           refine zAb rfl zDr (zCo (most := 4294967295) hW hs (by omega) v3) ?_; clear hs; rintro _ w ⟨rfl, hs⟩; clear hK; have hK := hs.suffix 6 rfl; refine zA4 ⟨hK, ?_⟩; refine zA5 10 rfl rfl (fun w hs => zAh zBj zDg rfl (c := ((sm : Nat) : Int)) (by simp [IntKind.wrap, IntKind.bits, IntKind.signed]; omega)) hK ?_; refine zA5 11 rfl rfl (fun w hs => zB3 ([.string (zCy nm), .int .i64 ((ln : Nat) : Int), .int .u32 ((sm : Nat) : Int)]) zCl zDi zDt rfl (by simp [Value.cells]) rfl rfl) hK ?_; refine zA9 [1, 12] ?_; refine ⟨⟨_, rfl, ?_⟩, ⟨_, rfl, ?_⟩, trivial⟩
           ·
            refine zA rfl (zA8 zBp rfl rfl (hs.cellAt 4 rfl rfl)) ?_; clear hK; have hK := (show Mem g w L from by first | exact hs.suffix 5 rfl | exact hs.suffix 6 rfl | exact hs.suffix 7 rfl); refine zA4 ⟨hK, ?_⟩; refine zA9 [12] ?_; refine ⟨⟨_, rfl, ?_⟩, trivial⟩; refine zAz hs rfl (row := obL (zCy nm, ((ln : Nat) : Int), sm)) zBp zsOb rfl (zBr (zCy nm) ((ln : Nat) : Int) sm) (by decide) (by decide) ?_; clear hs; intro b80 w hs; clear hK; have hK := hs.suffix 7 rfl; refine zA4 ⟨hK, ?_⟩; refine zA9 [13] ?_; refine ⟨⟨_, rfl, ?_⟩, trivial⟩
            refine zAv hs rfl 3 0 rfl rfl zBp zBp zD8 rfl rfl (by rfl) rfl rfl (by simp only [List.length_map]; omega) (by simp only [List.length_map]; omega) ?_; clear hs; intro a81 c81 w hs; simp only [List.set_cons_succ, List.set_cons_zero] at hs; clear hK; have hK := hs.suffix 7 rfl; refine zA4 ⟨hK, ?_⟩; refine zA5 14 rfl rfl (fun w hs => zA3 (o' := 5) zBx rfl zCt rfl rfl rfl) hK ?_; refine zA9 [15] ?_; refine ⟨⟨_, rfl, ?_⟩, trivial⟩; refine zAr (v := .slice _ _ _) hs 5 rfl zCt rfl rfl rfl rfl ?_; clear hs; intro w hs
            try simp only [List.set_cons_succ, List.set_cons_zero] at hs
            clear hK; have hK := hs.suffix 7 rfl; refine zA4 ⟨hK, ?_⟩; refine zAp (by kernel_rfl) ?_; clear hK; refine zA1 ?_; refine zA rfl (zA0 (v := .int .u64 _) rfl) ?_; refine zA rfl (zBo rfl rfl) ?_; refine zA rfl (zA2 (v := .int .u64 _) rfl) ?_; refine zA4 ?_
            have hw : IntKind.u64.wrap (((q + 1 : Nat) : Int) - 1) = ((q : Nat) : Int) := by rw [zB]; omega
            have hl : (acc.map obL).length + 1 = (acc ++ [(zCy nm, ((ln : Nat) : Int), sm)]).length := by simp
            rw [hl] at hs; exact ⟨(q, acc ++ [(zCy nm, ((ln : Nat) : Int), sm)], u3, (a81, c81)), by simp only; omega, ⟨by simp; omega, hrl, by simp only [List.map_append, List.map_cons, List.map_nil]; exact hs.arr [1, 3, 4, 5, 6] 7 (by decide)⟩, ⟨congrArg (Value.int .u64) hw, trivial⟩, by repeat (first | exact Out.mix _ _ _ | refine Out.updo rfl ?_ | refine Out.upd rfl ?_ | refine Out.mixIn rfl ?_)⟩
           ·
            refine zAz hs rfl (row := obL (zCy nm, ((ln : Nat) : Int), sm)) zBp zsOb rfl (zBr (zCy nm) ((ln : Nat) : Int) sm) (by decide) (by decide) ?_; clear hs; intro b80 w hs; clear hK; have hK := hs.suffix 7 rfl; refine zA4 ⟨hK, ?_⟩; refine zA9 [1] ?_; refine ⟨⟨_, rfl, ?_⟩, trivial⟩; refine zA rfl (zA8 zBp rfl rfl (hs.cellAt 5 rfl rfl)) ?_; clear hK; have hK := (show Mem g w L from by first | exact hs.suffix 5 rfl | exact hs.suffix 6 rfl | exact hs.suffix 7 rfl); refine zA4 ⟨hK, ?_⟩; refine zA9 [13] ?_; refine ⟨⟨_, rfl, ?_⟩, trivial⟩
            refine zAv hs rfl 3 0 rfl rfl zBp zBp zD8 rfl rfl (by rfl) rfl rfl (by simp only [List.length_map]; omega) (by simp only [List.length_map]; omega) ?_; clear hs; intro a81 c81 w hs; simp only [List.set_cons_succ, List.set_cons_zero] at hs; clear hK; have hK := hs.suffix 7 rfl; refine zA4 ⟨hK, ?_⟩; refine zA5 14 rfl rfl (fun w hs => zA3 (o' := 5) zBx rfl zCt rfl rfl rfl) hK ?_; refine zA9 [15] ?_; refine ⟨⟨_, rfl, ?_⟩, trivial⟩; refine zAr (v := .slice _ _ _) hs 5 rfl zCt rfl rfl rfl rfl ?_; clear hs; intro w hs
            try simp only [List.set_cons_succ, List.set_cons_zero] at hs
            clear hK; have hK := hs.suffix 7 rfl; refine zA4 ⟨hK, ?_⟩; refine zAp (by kernel_rfl) ?_; clear hK; refine zA1 ?_; refine zA rfl (zA0 (v := .int .u64 _) rfl) ?_; refine zA rfl (zBo rfl rfl) ?_; refine zA rfl (zA2 (v := .int .u64 _) rfl) ?_; refine zA4 ?_
            have hw : IntKind.u64.wrap (((q + 1 : Nat) : Int) - 1) = ((q : Nat) : Int) := by rw [zB]; omega
            have hl : (acc.map obL).length + 1 = (acc ++ [(zCy nm, ((ln : Nat) : Int), sm)]).length := by simp
            rw [hl] at hs; exact ⟨(q, acc ++ [(zCy nm, ((ln : Nat) : Int), sm)], u3, (a81, c81)), by simp only; omega, ⟨by simp; omega, hrl, by simp only [List.map_append, List.map_cons, List.map_nil]; exact hs.arr [1, 3, 4, 5, 6] 7 (by decide)⟩, ⟨congrArg (Value.int .u64) hw, trivial⟩, by repeat (first | exact Out.mix _ _ _ | refine Out.updo rfl ?_ | refine Out.upd rfl ?_ | refine Out.mixIn rfl ?_)⟩
         ·
          refine zAb rfl zDr (zCo (most := 4294967295) hW hs (by omega) v3) ?_; clear hs; rintro _ w ⟨rfl, hs⟩; clear hK; have hK := hs.suffix 6 rfl; refine zA4 ⟨hK, ?_⟩; refine zA5 10 rfl rfl (fun w hs => zAh zBj zDg rfl (c := ((sm : Nat) : Int)) (by simp [IntKind.wrap, IntKind.bits, IntKind.signed]; omega)) hK ?_; refine zA9 [1, 4] ?_; refine ⟨⟨_, rfl, ?_⟩, ⟨_, rfl, ?_⟩, trivial⟩
          ·
           refine zA rfl (zA8 zBp rfl rfl (hs.cellAt 4 rfl rfl)) ?_; clear hK; have hK := (show Mem g w L from by first | exact hs.suffix 5 rfl | exact hs.suffix 6 rfl | exact hs.suffix 7 rfl); refine zA4 ⟨hK, ?_⟩; refine zA9 [4] ?_; refine ⟨⟨_, rfl, ?_⟩, trivial⟩; refine zA rfl (zDu (l := nm) zC0 uz5 uz9 rfl ((hs.rdOwn 1 rfl).seq hs)) ?_; clear hK; have hK := hs.suffix 6 rfl; refine zA4 ⟨hK, ?_⟩; refine zA5 11 rfl rfl (fun w hs => zB3 ([.string (zCy nm), .int .i64 ((ln : Nat) : Int), .int .u32 ((sm : Nat) : Int)]) zCl zDi zDt rfl (by simp [Value.cells]) rfl rfl) hK ?_; refine zA9 [12] ?_; refine ⟨⟨_, rfl, ?_⟩, trivial⟩
           refine zAz hs rfl (row := obL (zCy nm, ((ln : Nat) : Int), sm)) zBp zsOb rfl (zBr (zCy nm) ((ln : Nat) : Int) sm) (by decide) (by decide) ?_; clear hs; intro b80 w hs; clear hK; have hK := hs.suffix 7 rfl; refine zA4 ⟨hK, ?_⟩; refine zA9 [13] ?_; refine ⟨⟨_, rfl, ?_⟩, trivial⟩; refine zAv hs rfl 3 0 rfl rfl zBp zBp zD8 rfl rfl (by rfl) rfl rfl (by simp only [List.length_map]; omega) (by simp only [List.length_map]; omega) ?_; clear hs; intro a81 c81 w hs; simp only [List.set_cons_succ, List.set_cons_zero] at hs; clear hK; have hK := hs.suffix 7 rfl; refine zA4 ⟨hK, ?_⟩; refine zA5 14 rfl rfl (fun w hs => zA3 (o' := 5) zBx rfl zCt rfl rfl rfl) hK ?_; refine zA9 [15] ?_
           refine ⟨⟨_, rfl, ?_⟩, trivial⟩; refine zAr (v := .slice _ _ _) hs 5 rfl zCt rfl rfl rfl rfl ?_; clear hs; intro w hs
           try simp only [List.set_cons_succ, List.set_cons_zero] at hs
           clear hK; have hK := hs.suffix 7 rfl; refine zA4 ⟨hK, ?_⟩; refine zAp (by kernel_rfl) ?_; clear hK; refine zA1 ?_; refine zA rfl (zA0 (v := .int .u64 _) rfl) ?_; refine zA rfl (zBo rfl rfl) ?_; refine zA rfl (zA2 (v := .int .u64 _) rfl) ?_; refine zA4 ?_
           have hw : IntKind.u64.wrap (((q + 1 : Nat) : Int) - 1) = ((q : Nat) : Int) := by rw [zB]; omega
           have hl : (acc.map obL).length + 1 = (acc ++ [(zCy nm, ((ln : Nat) : Int), sm)]).length := by simp
           rw [hl] at hs; exact ⟨(q, acc ++ [(zCy nm, ((ln : Nat) : Int), sm)], u3, (a81, c81)), by simp only; omega, ⟨by simp; omega, hrl, by simp only [List.map_append, List.map_cons, List.map_nil]; exact hs.arr [1, 3, 4, 5, 6] 7 (by decide)⟩, ⟨congrArg (Value.int .u64) hw, trivial⟩, by repeat (first | exact Out.mix _ _ _ | refine Out.updo rfl ?_ | refine Out.upd rfl ?_ | refine Out.mixIn rfl ?_)⟩
          ·
           refine zA rfl (zDu (l := nm) zC0 uz5 uz9 rfl ((hs.rdOwn 1 rfl).seq hs)) ?_; clear hK; have hK := hs.suffix 6 rfl; refine zA4 ⟨hK, ?_⟩; refine zA5 11 rfl rfl (fun w hs => zB3 ([.string (zCy nm), .int .i64 ((ln : Nat) : Int), .int .u32 ((sm : Nat) : Int)]) zCl zDi zDt rfl (by simp [Value.cells]) rfl rfl) hK ?_; refine zA9 [1, 12] ?_; refine ⟨⟨_, rfl, ?_⟩, ⟨_, rfl, ?_⟩, trivial⟩
           ·
            refine zA rfl (zA8 zBp rfl rfl (hs.cellAt 4 rfl rfl)) ?_; clear hK; have hK := (show Mem g w L from by first | exact hs.suffix 5 rfl | exact hs.suffix 6 rfl | exact hs.suffix 7 rfl); refine zA4 ⟨hK, ?_⟩; refine zA9 [12] ?_; refine ⟨⟨_, rfl, ?_⟩, trivial⟩; refine zAz hs rfl (row := obL (zCy nm, ((ln : Nat) : Int), sm)) zBp zsOb rfl (zBr (zCy nm) ((ln : Nat) : Int) sm) (by decide) (by decide) ?_; clear hs; intro b80 w hs; clear hK; have hK := hs.suffix 7 rfl; refine zA4 ⟨hK, ?_⟩; refine zA9 [13] ?_; refine ⟨⟨_, rfl, ?_⟩, trivial⟩
            refine zAv hs rfl 3 0 rfl rfl zBp zBp zD8 rfl rfl (by rfl) rfl rfl (by simp only [List.length_map]; omega) (by simp only [List.length_map]; omega) ?_; clear hs; intro a81 c81 w hs; simp only [List.set_cons_succ, List.set_cons_zero] at hs; clear hK; have hK := hs.suffix 7 rfl; refine zA4 ⟨hK, ?_⟩; refine zA5 14 rfl rfl (fun w hs => zA3 (o' := 5) zBx rfl zCt rfl rfl rfl) hK ?_; refine zA9 [15] ?_; refine ⟨⟨_, rfl, ?_⟩, trivial⟩; refine zAr (v := .slice _ _ _) hs 5 rfl zCt rfl rfl rfl rfl ?_; clear hs; intro w hs
            try simp only [List.set_cons_succ, List.set_cons_zero] at hs
            clear hK; have hK := hs.suffix 7 rfl; refine zA4 ⟨hK, ?_⟩; refine zAp (by kernel_rfl) ?_; clear hK; refine zA1 ?_; refine zA rfl (zA0 (v := .int .u64 _) rfl) ?_; refine zA rfl (zBo rfl rfl) ?_; refine zA rfl (zA2 (v := .int .u64 _) rfl) ?_; refine zA4 ?_
            have hw : IntKind.u64.wrap (((q + 1 : Nat) : Int) - 1) = ((q : Nat) : Int) := by rw [zB]; omega
            have hl : (acc.map obL).length + 1 = (acc ++ [(zCy nm, ((ln : Nat) : Int), sm)]).length := by simp
            rw [hl] at hs; exact ⟨(q, acc ++ [(zCy nm, ((ln : Nat) : Int), sm)], u3, (a81, c81)), by simp only; omega, ⟨by simp; omega, hrl, by simp only [List.map_append, List.map_cons, List.map_nil]; exact hs.arr [1, 3, 4, 5, 6] 7 (by decide)⟩, ⟨congrArg (Value.int .u64) hw, trivial⟩, by repeat (first | exact Out.mix _ _ _ | refine Out.updo rfl ?_ | refine Out.upd rfl ?_ | refine Out.mixIn rfl ?_)⟩
           ·
            refine zAz hs rfl (row := obL (zCy nm, ((ln : Nat) : Int), sm)) zBp zsOb rfl (zBr (zCy nm) ((ln : Nat) : Int) sm) (by decide) (by decide) ?_; clear hs; intro b80 w hs; clear hK; have hK := hs.suffix 7 rfl; refine zA4 ⟨hK, ?_⟩; refine zA9 [1] ?_; refine ⟨⟨_, rfl, ?_⟩, trivial⟩; refine zA rfl (zA8 zBp rfl rfl (hs.cellAt 5 rfl rfl)) ?_; clear hK; have hK := (show Mem g w L from by first | exact hs.suffix 5 rfl | exact hs.suffix 6 rfl | exact hs.suffix 7 rfl); refine zA4 ⟨hK, ?_⟩; refine zA9 [13] ?_; refine ⟨⟨_, rfl, ?_⟩, trivial⟩
            refine zAv hs rfl 3 0 rfl rfl zBp zBp zD8 rfl rfl (by rfl) rfl rfl (by simp only [List.length_map]; omega) (by simp only [List.length_map]; omega) ?_; clear hs; intro a81 c81 w hs; simp only [List.set_cons_succ, List.set_cons_zero] at hs; clear hK; have hK := hs.suffix 7 rfl; refine zA4 ⟨hK, ?_⟩; refine zA5 14 rfl rfl (fun w hs => zA3 (o' := 5) zBx rfl zCt rfl rfl rfl) hK ?_; refine zA9 [15] ?_; refine ⟨⟨_, rfl, ?_⟩, trivial⟩; refine zAr (v := .slice _ _ _) hs 5 rfl zCt rfl rfl rfl rfl ?_; clear hs; intro w hs
            try simp only [List.set_cons_succ, List.set_cons_zero] at hs
            clear hK; have hK := hs.suffix 7 rfl; refine zA4 ⟨hK, ?_⟩; refine zAp (by kernel_rfl) ?_; clear hK; refine zA1 ?_; refine zA rfl (zA0 (v := .int .u64 _) rfl) ?_; refine zA rfl (zBo rfl rfl) ?_; refine zA rfl (zA2 (v := .int .u64 _) rfl) ?_; refine zA4 ?_
            have hw : IntKind.u64.wrap (((q + 1 : Nat) : Int) - 1) = ((q : Nat) : Int) := by rw [zB]; omega
            have hl : (acc.map obL).length + 1 = (acc ++ [(zCy nm, ((ln : Nat) : Int), sm)]).length := by simp
            rw [hl] at hs; exact ⟨(q, acc ++ [(zCy nm, ((ln : Nat) : Int), sm)], u3, (a81, c81)), by simp only; omega, ⟨by simp; omega, hrl, by simp only [List.map_append, List.map_cons, List.map_nil]; exact hs.arr [1, 3, 4, 5, 6] 7 (by decide)⟩, ⟨congrArg (Value.int .u64) hw, trivial⟩, by repeat (first | exact Out.mix _ _ _ | refine Out.updo rfl ?_ | refine Out.upd rfl ?_ | refine Out.mixIn rfl ?_)⟩
      ·
       intro h64; have g64 := of_decide_eq_false h64; have hz0 := of_decide_eq_false h64; rw [if_pos hz0] at hrl
       cases hrl
       refine zBg rfl ?_; exact ⟨s, hs, trivial, by repeat (first | with_reducible exact Out.refl _ _ | refine Out.updo rfl ?_ | refine Out.upd rfl ?_ | refine Out.mixIn rfl ?_)⟩
     ·
      intro h60; have g60 := of_decide_eq_false h60
      obtain rfl : q = 0 := by omega
      cases hrl
      refine zAc rfl rfl rfl h60 ?_; refine zAc rfl rfl rfl h60 ?_; refine zAc rfl rfl rfl h60 ?_; refine zA rfl (zAk (v := .bool _) rfl h60 rfl) ?_; refine zA4 ?_; refine zAx rfl rfl ?_; refine zBg rfl ?_; exact ⟨s, hs, trivial, by repeat (first | with_reducible exact Out.refl _ _ | refine Out.updo rfl ?_ | refine Out.upd rfl ?_ | refine Out.mixIn rfl ?_)⟩
    ·
     clear hs; rintro x ξ w hI; have hs := hI; clear hI; generalize x = s2 at hs; refine zA6 ?_; refine zA6 (zA1 ?_); refine zA rfl (zA0 (v := .pointer (some _)) rfl) ?_; refine zAb rfl en70 (err_sl hs) ?_; clear hs; rintro _ w ⟨e84, rfl, hs⟩; refine zA rfl (run_neE (ad := ad) rfl) ?_; refine zA4 ?_; refine zB8 rfl ?_ ?_
     ·
      intro h85; have g85 := ne_t h85
      have hz1 : t8.2 ≠ 0 := by simpa using h85
      rw [if_pos hz1] at hRG; refine zA6 (zA1 ?_); refine zA rfl (zC3 (cs := [.int .i64 0, .int .i64 0, .int .i64 0, .int .i64 0, .slice none 0 0, .slice none 0 0]) zBx ze39 pl39 rfl) ?_; refine zA rfl (zA0 (v := .pointer (some _)) rfl) ?_; refine zAb rfl en70 (errC_sl hs) ?_; clear hs; rintro _ w ⟨e88, rfl, hs⟩; refine zAn hs 4 rfl rfl rfl zDf rfl rfl ?_; clear hs; intro w hs
      try simp only [List.set_cons_succ, List.set_cons_zero] at hs
      refine zA rfl (zA2 (v := eV ad _ _) rfl) ?_; refine zA4 ?_; refine zAg ?_; refine zFd [(.cell 2 39, .agg _), (.tmp 3, eV ad _ _)] rfl ⟨⟨_, rfl, zBq hs 4 rfl zBx zDf⟩, rfl, trivial⟩ ?_; refine ⟨_, rfl, (none, 0), (none, 0), e88, by rw [hRG]; simp only [← eV_flV hz1]; rfl, ?_⟩; rw [hRG]
      simp only
      rw [← errC_flC hz1]; exact (zeroM (hs.arr [0] 5 (by decide))).arr [2, 0, 1] 3 (by decide)
     ·
      intro h85; have g85 := ne_f h85
      have hz1 : t8.2 = 0 := by simpa using h85
      rw [if_neg (by omega)] at hRG; refine zAf ?_; refine zA6 ?_; refine zA6 (zA1 ?_); refine zA rfl (zA0 (v := .pointer (some _)) rfl) ?_; refine zAb rfl en114 (left_sl hs (by omega)) ?_; clear hs; rintro _ w ⟨rfl, hle, hs⟩; refine zA rfl (zBi rfl rfl) ?_; refine zA4 ?_; refine zB8 rfl ?_ ?_
      ·
       intro h91; have g91 := of_decide_eq_true h91; rw [if_pos (by omega)] at hRG; refine zA6 ?_; refine zAy zBv (hs.drop 4) ?_; intro w tr hK; replace hs := tr _ hs; clear tr; refine zA5 0 rfl rfl (fun w hs => zC3 (cs := [.int .i64 0, .int .i64 0, .int .i64 0, .int .i64 0, .slice none 0 0, .slice none 0 0]) zBx ze39 pl39 rfl) hK ?_; refine zA5 1 rfl rfl (fun w hs => zA0 (v := .pointer (some _)) rfl) hK ?_; refine zA5 3 rfl rfl (fun w hs => zA8 zCq rfl rfl (hW.cellW hs 103 (by decide) rfl)) hK ?_; refine zA9 [2] ?_; refine ⟨⟨_, rfl, ?_⟩, trivial⟩; refine zAb rfl en72 (at_sl hs) ?_; clear hs; rintro _ w ⟨rfl, hs⟩; clear hK; have hK := hs.drop 4; refine zA4 ⟨hK, ?_⟩
       refine @aw_take _ _ _ _ _ _ _ _ _ _ _ _ _ _ 4 _ rfl (by kernel_rfl) (by kernel_rfl) (by kernel_rfl) rfl (fun w hs => zB3 [.int .i64 t8.1, zAq ad 103] uz109 ze109 pl109 rfl (at_one _ _) rfl rfl) hK ?_; refine zA9 [5, 7] ?_; refine ⟨⟨_, rfl, ?_⟩, ⟨_, rfl, ?_⟩, trivial⟩
       ·
        refine zCj (v := .agg _) hs rfl rfl ?_; clear hs; intro b97 w hs; clear hK; have hK := hs.tail.drop 4; refine zA4 ⟨hK, ?_⟩; refine zA5 6 rfl rfl (fun w hs => run_mkI uz104 rfl) hK ?_; refine zA9 [7] ?_; refine ⟨⟨_, rfl, ?_⟩, trivial⟩; refine zAn hs 5 rfl rfl rfl zDf rfl rfl ?_; clear hs; intro w hs
        try simp only [List.set_cons_succ, List.set_cons_zero] at hs
        clear hK; have hK := hs.tail.drop 4; refine zA4 ⟨hK, ?_⟩; refine zA5 8 rfl rfl (fun w hs => zA2 (v := .iface _ (.pointer (some _))) rfl) hK ?_; refine zAp (by kernel_rfl) ?_; clear hK; refine zAg ?_; refine zFd [(.cell 2 39, .agg _), (.tmp 3, .iface _ (.pointer (some _)))] rfl ⟨⟨_, rfl, zBq hs 5 rfl zBx zDf⟩, rfl, trivial⟩ ?_; refine ⟨_, rfl, (none, 0), (none, 0), b97, by rw [hRG]; rfl, ?_⟩; rw [hRG]; exact (zeroM (hs.arr [0] 6 (by decide))).arr [2, 0, 1] 3 (by decide)
       ·
        refine zAn hs 4 rfl rfl rfl zDf rfl rfl ?_; clear hs; intro w hs
        try simp only [List.set_cons_succ, List.set_cons_zero] at hs
        clear hK; have hK := hs.drop 4; refine zA4 ⟨hK, ?_⟩; refine zA9 [5] ?_; refine ⟨⟨_, rfl, ?_⟩, trivial⟩; refine zCj (v := .agg _) hs rfl rfl ?_; clear hs; intro b97 w hs; clear hK; have hK := hs.tail.drop 4; refine zA4 ⟨hK, ?_⟩; refine zA5 6 rfl rfl (fun w hs => run_mkI uz104 rfl) hK ?_; refine zA5 8 rfl rfl (fun w hs => zA2 (v := .iface _ (.pointer (some _))) rfl) hK ?_; refine zAp (by kernel_rfl) ?_; clear hK; refine zAg ?_; refine zFd [(.cell 2 39, .agg _), (.tmp 3, .iface _ (.pointer (some _)))] rfl ⟨⟨_, rfl, zBq hs 5 rfl zBx zDf⟩, rfl, trivial⟩ ?_; refine ⟨_, rfl, (none, 0), (none, 0), b97, by rw [hRG]; rfl, ?_⟩; rw [hRG]
        exact (zeroM (hs.arr [0] 6 (by decide))).arr [2, 0, 1] 3 (by decide)
      ·
       intro h91; have g91 := of_decide_eq_false h91; rw [if_neg (by omega)] at hRG; refine zAf ?_; refine zA6 ?_; refine zA6 ?_
       have hfl : fo.length ≤ 8 := by have h9 := rdObs_len (b := B) i7 [] t7; rw [e8] at h9; simp at h9; omega
       refine zA1 ?_; refine zA rfl (zBc hs 3 rfl zBx zDf rfl) ?_; refine zAb rfl en40 (validM_sl hE hs (x := (⟨((i1 : Nat) : Int), ((i2 : Nat) : Int), ((i3 : Nat) : Int), i4, fe, fo⟩ : Mf)) (MfR.own (e := s1) (o := s2) 2 1 rfl rfl) (by simp only; omega)) ?_; clear hs; rintro _ w ⟨eb, rfl, hs⟩; refine zA rfl (zA2 (v := flV ad _ _) rfl) ?_; refine zA4 ?_; refine zA6 ?_
       by_cases hF : (mfF (⟨((i1 : Nat) : Int), ((i2 : Nat) : Int), ((i3 : Nat) : Int), i4, fe, fo⟩ : Mf)).1 = 0
       ·
        refine zA1 ?_; refine zA rfl (zA0 (v := flV ad _ _) rfl) ?_; refine zA rfl (zF7 (mfF_ok _).place rfl) ?_; refine zA4 ?_; refine zAx rfl ((by rw [decide_eq_true hF]; rfl)) ?_; refine zAf ?_; refine zA6 (zA1 ?_); refine zA rfl (zBc hs 4 rfl zBx zDf rfl) ?_; refine zAn hs 5 rfl rfl rfl zDf rfl rfl ?_; clear hs; intro w hs
        try simp only [List.set_cons_succ, List.set_cons_zero] at hs
        refine zA rfl (zA2 (v := .nilIface) rfl) ?_; refine zA4 ?_; refine zAg ?_; refine zFd [(.cell 2 39, .agg _), (.tmp 3, .nilIface)] rfl ⟨⟨_, rfl, zBq hs 5 rfl zBx zDf⟩, rfl, trivial⟩ ?_; rw [if_neg (fun h => h hF)] at hRG; refine ⟨_, rfl, s1, s2, 0, by rw [hRG]; simp only [flV_bare, zB6]; rfl, ?_⟩; rw [hRG]; exact Mem.addE (hs.arr [3, 2] 6 (by decide)) (zEd _)
       ·
        refine zA1 ?_; refine zA rfl (zA0 (v := flV ad _ _) rfl) ?_; refine zA rfl (zF7 (mfF_ok _).place rfl) ?_; refine zA4 ?_; refine zBb rfl ((by rw [decide_eq_false hF]; rfl)) ?_; refine zA6 (zA1 ?_); refine zA rfl (zC3 (cs := [.int .i64 0, .int .i64 0, .int .i64 0, .int .i64 0, .slice none 0 0, .slice none 0 0]) zBx ze39 pl39 rfl) ?_; refine zA rfl (zA0 (v := flV ad _ _) rfl) ?_; refine zAn hs 5 rfl rfl rfl zDf rfl rfl ?_; clear hs; intro w hs
        try simp only [List.set_cons_succ, List.set_cons_zero] at hs
        refine zA rfl (zA2 (v := flV ad _ _) rfl) ?_; refine zA4 ?_; refine zAg ?_; refine zFd [(.cell 2 39, .agg _), (.tmp 3, flV ad _ _)] rfl ⟨⟨_, rfl, zBq hs 5 rfl zBx zDf⟩, rfl, trivial⟩ ?_; rw [if_pos hF] at hRG; refine ⟨_, rfl, (none, 0), (none, 0), eb, by rw [hRG]; rfl, ?_⟩; rw [hRG]; exact (zeroM (hs.arr [0] 6 (by decide))).arr [2, 0, 1] 3 (by decide)
end Go.Proofs.YtdkgdjnbpjjfmaaGreatDoor
namespace Go.Proofs.YtdkgdjnbpjjfmaaGreatDoor
set_option linter.all false
open Go.RowKit
attribute [local irreducible] zAq eV
variable {g w : World} {L M : List HP} {ad : Nat → Addr} {b : List UInt8} {a : Option Addr} {n c : Nat}

def rd2 (x : Nat × List UInt8) (z : Nat) : Option (Nat × En × Nat) :=
  if x.1 ≠ 0 then none else if x.2.length < 9 then none else if 9223372036854775808 ≤ valL (x.2.take 8) then none else
  if ¬ (1 ≤ (x.2.getD 8 0).toNat ∧ (x.2.getD 8 0).toNat ≤ 4) then none else
  if (zGc (x.2.drop 9)).1.1 ≠ 0 then none else some (valL (x.2.take 8), ((((x.2.getD 8 0).toNat : Nat) : Int), (zGc (x.2.drop 9)).2), z)
def rdE (b : List UInt8) : Option (Nat × En × Nat) :=
  if b.length < 4 then none else if 65536 < valL (b.take 4) then none else if b.length - 4 < valL (b.take 4) then none else rd2 (openL ((b.take (4 + valL (b.take 4))).drop 4)) (4 + valL (b.take 4))
attribute [local irreducible] zEr bytG vintB rdEps rdObs in
theorem rdM_sums (b : List UInt8) : ∀ o ∈ (rdM b).1.obs, o.2.2 < 4294967296 := by
  intro o ho; simp only [rdM] at ho; exact rdObs_sum _ _ _ (fun _ h => by cases h) o ho
attribute [local irreducible] rdM openL mfF
theorem readG_place (b : List UInt8) : (zGc b).1.2 = none ∨ (zGc b).1.1 ≠ 0 := by
  unfold zGc
  generalize openL b = o; generalize rdM o.2 = r
  by_cases h1 : o.1 ≠ 0
  · rw [if_pos h1]; exact .inl rfl
  · rw [if_neg h1]
    by_cases h2 : r.2.2 ≠ 0
    · rw [if_pos h2]
      right
      unfold eF
      by_cases h3 : r.2.2 = 101
      · rw [if_pos h3]; exact (by decide : (101 : Nat) ≠ 0)
      · rw [if_neg h3]; exact h2
    · rw [if_neg h2]
      by_cases h3 : r.2.1 < o.2.length
      · rw [if_pos h3]; exact .inr (by decide : (103 : Nat) ≠ 0)
      · rw [if_neg h3]
        by_cases h4 : (mfF r.1).1 ≠ 0
        · rw [if_pos h4]; exact (mfF_ok _).place
        · rw [if_neg h4]; exact .inl rfl
theorem readG_ok {b : List UInt8} (h : (zGc b).1.1 = 0) : mfF (zGc b).2 = (0, none) ∧ ∀ o ∈ (zGc b).2.obs, o.2.2 < 4294967296 := by
  unfold zGc at h ⊢
  have hs := rdM_sums (openL b).2
  revert hs h
  generalize openL b = o; generalize rdM o.2 = r; intro h hs
  by_cases h1 : o.1 ≠ 0
  · rw [if_pos h1] at h; exact absurd h h1
  · rw [if_neg h1] at h ⊢
    by_cases h2 : r.2.2 ≠ 0
    · rw [if_pos h2] at h
      exfalso
      unfold eF at h
      by_cases h3 : r.2.2 = 101
      · rw [if_pos h3] at h; exact absurd (show (101 : Nat) = 0 from h) (by decide)
      · rw [if_neg h3] at h; exact h2 h
    · rw [if_neg h2] at h ⊢
      by_cases h3 : r.2.1 < o.2.length
      · rw [if_pos h3] at h; exact absurd (show (103 : Nat) = 0 from h) (by decide)
      · rw [if_neg h3] at h ⊢
        by_cases h4 : (mfF r.1).1 ≠ 0
        · rw [if_pos h4] at h; exact absurd h h4
        · rw [if_neg h4]
          exact ⟨flt0 (mfF_ok _) (by simpa using h4), hs⟩
set_option maxHeartbeats 4000000 in
set_option maxRecDepth 10000 in
theorem enAny_sl (hP : ErrP ad g) (hW : ErrW ad g) (hE : ErrV ad g) (hs : Mem g w L) (hlen : b.length ≤ 1000000) (hr : Rd g L (.slice a n c) (zAm b)) (hn : n = b.length) (hc : n ≤ c) {r : Option (Nat × En × Nat)} (hR : rdE b = r) :
    Calls Tryz.prog 77 #[.slice a n c] w (Ret (ErdR g ad L r)) := by
  subst hn; obtain ⟨N, hN⟩ : ∃ N, N = valL (b.take 4) := ⟨_, rfl⟩; obtain ⟨k0, X, hop⟩ : ∃ k X, openL ((b.take (4 + N)).drop 4) = (k, X) := ⟨_, _, rfl⟩; rw [rdE, ← hN, hop] at hR
  have hXl : X.length ≤ b.length := by
    have hdl : ((b.take (4 + N)).drop 4).length ≤ b.length := by rw [List.length_drop, List.length_take]; omega
    unfold openL at hop
    split at hop
    · cases hop; simp
    · split at hop
      · cases hop; rw [List.length_take]; omega
      · cases hop; simp
  obtain ⟨q, hqv⟩ : ∃ q, q = valL (X.take 8) := ⟨_, rfl⟩; obtain ⟨u, hu⟩ : ∃ u, u = X.getD 8 0 := ⟨_, rfl⟩; have hut := u.toNat_lt; refine zAo Tryz.func77 rfl rfl ?_
  skip
  refine zA6 (zA1 ?_); refine zA rfl (zA2 (v := .int .i64 _) rfl) ?_; refine zBd hs rfl ze41 ?_; clear hs; intro b3 w hs
  try simp only [List.set_cons_succ, List.set_cons_zero] at hs
  refine zA rfl (zA2 (v := .int .i64 _) rfl) ?_; refine zA rfl (zA2 (v := .nilIface) rfl) ?_; refine zA4 (zA6 (zA1 ?_)); refine zA rfl (zA2 (v := .func _ _ _) rfl) ?_; refine zA4 ?_; refine zA6 ?_; refine zA6 (zA1 ?_); refine zA rfl (zA0 (v := .slice _ _ _) rfl) ?_; refine zA rfl (zB2 zC0 rfl) ?_; refine zA rfl (zB7 rfl rfl) ?_; refine zA4 ?_; refine zB8 rfl ?_ ?_
  ·
   intro h14; have g14 := of_decide_eq_true h14; rw [if_pos (by omega)] at hR; subst hR; refine zA6 (zA1 ?_); refine zA rfl (zA0 (v := .func _ _ _) rfl) ?_; refine zA rfl (zA8 zCq rfl rfl (hP.cellW hs 101 (by decide) rfl)) ?_; refine zD2 rfl (cap := #[]) en116 rfl (zFt (ad := ad) hs (101, none) 0) ?_; clear hs; rintro _ w ⟨rfl, hs⟩; refine zA rfl (zAa (v := .int .i64 _) rfl rfl) ?_; refine zA rfl (zAa (v := .agg _) rfl rfl) ?_; refine zA rfl (zAa (v := .int .i64 _) rfl rfl) ?_; refine zA rfl (zAa (v := zAq ad _) rfl rfl) ?_; refine zA rfl (zA2 (v := .int .i64 _) rfl) ?_; refine zAn hs 0 rfl rfl rfl zEq rfl rfl ?_; clear hs; intro w hs
   try simp only [List.set_cons_succ, List.set_cons_zero] at hs
   refine zA rfl (zA2 (v := .int .i64 _) rfl) ?_; refine zA rfl (zA2 (v := zAq ad _) rfl) ?_; refine zA4 ?_; refine zAg ?_; refine zFd [(.tmp 2, .int .i64 _), (.cell 3 41, .agg _), (.tmp 4, .int .i64 _), (.tmp 5, zAq ad _)] rfl ⟨rfl, ⟨_, rfl, zBq hs 0 rfl zEa zEq⟩, rfl, rfl, trivial⟩ ?_; exact ⟨_, rfl, (101, none), 0, .inl rfl, by decide, rfl, hs.tail.addE (zEd _)⟩
  ·
   intro h14; have g14 := of_decide_eq_false h14; rw [if_neg (by omega)] at hR
   have h4l : (b.take 4).length = 4 := by rw [List.length_take]; omega
   have hN32 : N < 4294967296 := by have := valL_lt (b.take 4); rw [h4l] at this; rw [hN]; exact this
   refine zAf ?_; refine zA6 (zA1 ?_); refine zA rfl (zA0 (v := .slice _ _ _) rfl) ?_; refine zA rfl (zFa zC0 sz5 rfl rfl (hi := 4) rfl (by omega)) ?_; refine zAb rfl en68 (zFv ad hs (b := (b.take 4).drop 0) (hr.cons.subB (by omega) (by omega)) (by simp; omega) (by simp; omega)) ?_; clear hs; rintro _ w ⟨rb, rfl, hs⟩; rw [List.drop_zero] at hs; refine zAb rfl en111 (fixN_sl hW hs (l := b.take 4) (rest := []) (n := 4) (by omega) (by simp) h4l.symm (by decide)) ?_; clear hs; rintro _ w ⟨rfl, hs⟩; rw [← hN]; refine zA rfl (zA2 (v := .int .u64 _) rfl) ?_; refine zA4 ?_; refine zA6 ?_; refine zA6 (zA1 ?_); refine zA rfl (zA0 (v := .int .u64 _) rfl) ?_; refine zA rfl (zBi rfl rfl) ?_
   refine zA4 ?_; refine zB8 rfl ?_ ?_
   ·
    intro h27; have g27 := of_decide_eq_true h27; rw [if_pos (by omega)] at hR; subst hR; refine zA6 (zA1 ?_); refine zA rfl (zA0 (v := .func _ _ _) rfl) ?_; refine zA rfl (zA8 zCq rfl rfl (hE.cellW hs 104 (by decide) rfl)) ?_; refine zD2 rfl (cap := #[]) en116 rfl (zFt (ad := ad) hs (104, none) 0) ?_; clear hs; rintro _ w ⟨rfl, hs⟩; refine zA rfl (zAa (v := .int .i64 _) rfl rfl) ?_; refine zA rfl (zAa (v := .agg _) rfl rfl) ?_; refine zA rfl (zAa (v := .int .i64 _) rfl rfl) ?_; refine zA rfl (zAa (v := zAq ad _) rfl rfl) ?_; refine zA rfl (zA2 (v := .int .i64 _) rfl) ?_; refine zAn hs 1 rfl rfl rfl zEq rfl rfl ?_; clear hs; intro w hs
    try simp only [List.set_cons_succ, List.set_cons_zero] at hs
    refine zA rfl (zA2 (v := .int .i64 _) rfl) ?_; refine zA rfl (zA2 (v := zAq ad _) rfl) ?_; refine zA4 ?_; refine zAg ?_; refine zFd [(.tmp 2, .int .i64 _), (.cell 3 41, .agg _), (.tmp 4, .int .i64 _), (.tmp 5, zAq ad _)] rfl ⟨rfl, ⟨_, rfl, zBq hs 1 rfl zEa zEq⟩, rfl, rfl, trivial⟩ ?_; exact ⟨_, rfl, (104, none), 0, .inl rfl, by decide, rfl, hs.tail.tail.addE (zEd _)⟩
   ·
    intro h27; have g27 := of_decide_eq_false h27; rw [if_neg (by omega)] at hR; refine zAf ?_; refine zA6 ?_; refine zA6 (zA1 ?_); refine zA rfl (zA0 (v := .slice _ _ _) rfl) ?_; refine zA rfl (zB2 zC0 rfl) ?_; refine zA rfl (zCg rfl rfl (c := ((b.length - 4 : Nat) : Int)) (by omega) (inI (by omega) (by omega))) ?_; refine zA rfl (zAh uz3 zBj rfl (c := ((b.length - 4 : Nat) : Int)) (by rw [zB]; omega)) ?_; refine zA rfl (zA0 (v := .int .u64 _) rfl) ?_; refine zA rfl (zB7 rfl rfl) ?_; refine zA4 ?_; refine zB8 rfl ?_ ?_
    ·
     intro h40; have g40 := of_decide_eq_true h40; rw [if_pos (by omega)] at hR; subst hR; refine zA6 (zA1 ?_); refine zA rfl (zA0 (v := .func _ _ _) rfl) ?_; refine zA rfl (zA8 zCq rfl rfl (hP.cellW hs 101 (by decide) rfl)) ?_; refine zD2 rfl (cap := #[]) en116 rfl (zFt (ad := ad) hs (101, none) 0) ?_; clear hs; rintro _ w ⟨rfl, hs⟩; refine zA rfl (zAa (v := .int .i64 _) rfl rfl) ?_; refine zA rfl (zAa (v := .agg _) rfl rfl) ?_; refine zA rfl (zAa (v := .int .i64 _) rfl rfl) ?_; refine zA rfl (zAa (v := zAq ad _) rfl rfl) ?_; refine zA rfl (zA2 (v := .int .i64 _) rfl) ?_; refine zAn hs 1 rfl rfl rfl zEq rfl rfl ?_; clear hs; intro w hs
     try simp only [List.set_cons_succ, List.set_cons_zero] at hs
     refine zA rfl (zA2 (v := .int .i64 _) rfl) ?_; refine zA rfl (zA2 (v := zAq ad _) rfl) ?_; refine zA4 ?_; refine zAg ?_; refine zFd [(.tmp 2, .int .i64 _), (.cell 3 41, .agg _), (.tmp 4, .int .i64 _), (.tmp 5, zAq ad _)] rfl ⟨rfl, ⟨_, rfl, zBq hs 1 rfl zEa zEq⟩, rfl, rfl, trivial⟩ ?_; exact ⟨_, rfl, (101, none), 0, .inl rfl, by decide, rfl, hs.tail.tail.addE (zEd _)⟩
    ·
     intro h40; have g40 := of_decide_eq_false h40; rw [if_neg (by omega)] at hR
     unfold rd2 at hR
     simp only [← hqv, ← hu] at hR; refine zAf ?_; refine zA6 (zA1 ?_); refine zA rfl (zA0 (v := .slice _ _ _) rfl) ?_; refine zA rfl (zA0 (v := .int .u64 _) rfl) ?_; refine zA rfl (zAh zBj uz3 rfl (c := ((N : Nat) : Int)) (zCp.wrap ⟨by omega, by omega⟩)) ?_; refine zA rfl (zAs rfl rfl (c := ((4 + N : Nat) : Int)) (by omega) (inI (by omega) (by omega))) ?_; refine zA rfl (zF1 zC0 sz5 rfl rfl rfl (lo := 4) (hi := 4 + N) rfl rfl (by omega) (by omega)) ?_
     refine zAb rfl en108 (copen_sl (k := k0) (b := X) hP hs (l := (b.take (4 + N)).drop 4) (hr.cons.cons.subB (by omega) (by omega)) (by rw [List.length_drop, List.length_take]; omega) (by omega) (by rw [List.length_drop, List.length_take]; omega) hop) ?_; clear hs; rintro _ w ⟨a54, c54, rfl, hs⟩; refine zA rfl (zA0 (v := .tuple _) rfl) ?_; refine zA rfl (zAa (v := .slice _ _ _) rfl rfl) ?_; refine zA rfl (zAa (v := zAq ad _) rfl rfl) ?_; refine zA rfl (zA2 (v := .slice _ _ _) rfl) ?_; refine zA rfl (zA2 (v := zAq ad _) rfl) ?_; refine zA4 ?_; refine zA6 ?_; refine zA6 (zA1 ?_); refine zA rfl (zA0 (v := zAq ad _) rfl) ?_; refine zA rfl (zAt (ad := ad) rfl) ?_; refine zA4 ?_
     refine zB8 rfl ?_ ?_
     ·
      intro h58; have g58 := ne_t h58
      have hz : k0 ≠ 0 := by simpa using h58
      rw [if_pos hz] at hR; subst hR; refine zA6 (zA1 ?_); refine zA rfl (zA0 (v := .func _ _ _) rfl) ?_; refine zA rfl (zA0 (v := zAq ad _) rfl) ?_; refine zD2 rfl (cap := #[]) en116 rfl (zFt (ad := ad) hs (k0, none) 0) ?_; clear hs; rintro _ w ⟨rfl, hs⟩; refine zA rfl (zAa (v := .int .i64 _) rfl rfl) ?_; refine zA rfl (zAa (v := .agg _) rfl rfl) ?_; refine zA rfl (zAa (v := .int .i64 _) rfl rfl) ?_; refine zA rfl (zAa (v := zAq ad _) rfl rfl) ?_; refine zA rfl (zA2 (v := .int .i64 _) rfl) ?_; refine zAn hs 2 rfl rfl rfl zEq rfl rfl ?_; clear hs; intro w hs
      try simp only [List.set_cons_succ, List.set_cons_zero] at hs
      refine zA rfl (zA2 (v := .int .i64 _) rfl) ?_; refine zA rfl (zA2 (v := zAq ad _) rfl) ?_; refine zA4 ?_; refine zAg ?_; refine zFd [(.tmp 2, .int .i64 _), (.cell 3 41, .agg _), (.tmp 4, .int .i64 _), (.tmp 5, zAq ad _)] rfl ⟨rfl, ⟨_, rfl, zBq hs 2 rfl zEa zEq⟩, rfl, rfl, trivial⟩ ?_; exact ⟨_, rfl, (k0, none), 0, .inl rfl, hz, rfl, hs.tail.tail.tail.addE (zEd _)⟩
     ·
      intro h58; have g58 := ne_f h58
      have hz : k0 = 0 := by simpa using h58
      subst hz; rw [if_neg (by decide)] at hR; refine zAf ?_; refine zA6 ?_; refine zA6 (zA1 ?_); refine zA rfl (zA0 (v := .slice _ _ _) rfl) ?_; refine zA rfl (zB2 zC0 rfl) ?_; refine zA rfl (zB7 rfl rfl) ?_; refine zA4 ?_; refine zB8 rfl ?_ ?_
      ·
       intro h68; have g68 := of_decide_eq_true h68; rw [if_pos (by omega)] at hR; subst hR; refine zA6 (zA1 ?_); refine zA rfl (zA0 (v := .func _ _ _) rfl) ?_; refine zA rfl (zA8 zCq rfl rfl (hP.cellW hs 101 (by decide) rfl)) ?_; refine zD2 rfl (cap := #[]) en116 rfl (zFt (ad := ad) hs (101, none) 0) ?_; clear hs; rintro _ w ⟨rfl, hs⟩; refine zA rfl (zAa (v := .int .i64 _) rfl rfl) ?_; refine zA rfl (zAa (v := .agg _) rfl rfl) ?_; refine zA rfl (zAa (v := .int .i64 _) rfl rfl) ?_; refine zA rfl (zAa (v := zAq ad _) rfl rfl) ?_; refine zA rfl (zA2 (v := .int .i64 _) rfl) ?_; refine zAn hs 2 rfl rfl rfl zEq rfl rfl ?_; clear hs; intro w hs
       try simp only [List.set_cons_succ, List.set_cons_zero] at hs
       refine zA rfl (zA2 (v := .int .i64 _) rfl) ?_; refine zA rfl (zA2 (v := zAq ad _) rfl) ?_; refine zA4 ?_; refine zAg ?_; refine zFd [(.tmp 2, .int .i64 _), (.cell 3 41, .agg _), (.tmp 4, .int .i64 _), (.tmp 5, zAq ad _)] rfl ⟨rfl, ⟨_, rfl, zBq hs 2 rfl zEa zEq⟩, rfl, rfl, trivial⟩ ?_; exact ⟨_, rfl, (101, none), 0, .inl rfl, by decide, rfl, hs.tail.tail.tail.addE (zEd _)⟩
      ·
       intro h68; have g68 := of_decide_eq_false h68; rw [if_neg (by omega)] at hR
       have h8l : (X.take 8).length = 8 := by rw [List.length_take]; omega
       have hq64 : q < 18446744073709551616 := by have := valL_lt (X.take 8); rw [h8l] at this; rw [hqv]; exact this
       have hx8 : X[8]? = some u := by rw [hu, List.getD_eq_getElem?_getD, List.getElem?_eq_getElem (by omega)]; rfl
       refine zAf ?_; refine zA6 ?_
       by_cases hq : q < 9223372036854775808
       ·
        refine zA1 ?_; refine zA rfl (zA0 (v := .slice _ _ _) rfl) ?_; refine zAb rfl en68 (zFv ad hs (b := X) (hs.rdOwn 0 rfl) rfl (by omega)) ?_; clear hs; rintro _ w ⟨rb2, rfl, hs⟩; refine zAb rfl en111 (fixN_sl hW hs (l := X.take 8) (rest := X.drop 8) (n := 8) (by omega) (by rw [List.drop_zero, List.take_append_drop]) h8l.symm (by decide)) ?_; clear hs; rintro _ w ⟨rfl, hs⟩; rw [← hqv]; refine zA rfl (zAh zBj uz2 rfl (c := ((q : Nat) : Int)) (zCp.wrap ⟨by omega, by omega⟩)) ?_; refine zA rfl (zA2 (v := .int .i64 _) rfl) ?_; refine zA4 ?_; refine zA6 ?_; obtain ⟨br, or_, rfl, _⟩ := hs.ownCells 1 rfl (by rw [zAu]; omega); refine zA1 ?_; refine zA rfl (zA0 (v := .slice _ _ _) rfl) ?_
        refine zA rfl (zBk zC0 sz5 rfl rfl (i := 8) rfl (by omega) rfl) ?_; refine zA rfl (zA8 uz5 rfl rfl (hs.ownAt 1 rfl (zE2 hx8))) ?_; refine zA rfl (zAh uz5 uz3 rfl (c := ((u.toNat : Nat) : Int)) (zCp.wrap ⟨by omega, by omega⟩)) ?_; refine zA rfl (zC3 (cs := [.int .i64 ((u.toNat : Nat) : Int), .int .i64 0, .int .i64 0, .int .i64 0, .int .i64 0, .slice none 0 0, .slice none 0 0]) zEa ze41 pl41 rfl) ?_; refine zBd hs rfl ze41 ?_; clear hs; intro b11 w hs
        try simp only [List.set_cons_succ, List.set_cons_zero] at hs
        refine zAn hs 0 rfl rfl rfl zEq rfl rfl ?_; clear hs; intro w hs
        try simp only [List.set_cons_succ, List.set_cons_zero] at hs
        refine zA4 ?_; refine zA6 ?_; refine zA6 ?_; rw [if_neg (by omega)] at hR; refine zA1 ?_; refine zA rfl (zA0 (v := .int .i64 _) rfl) ?_; refine zA rfl (zB7 rfl rfl) ?_; refine zA4 ?_; refine zAx rfl (decide_eq_false (by omega)) ?_; refine zAf ?_; refine zA6 ?_; refine zA6 ?_
        by_cases hk : 1 ≤ u.toNat ∧ u.toNat ≤ 4
        ·
         rw [if_neg (fun h => h hk)] at hR; refine zA1 ?_; refine zA rfl (zA3 (o' := 0) zEa rfl sz3 rfl rfl rfl) ?_; refine zA rfl (zA8 uz3 rfl rfl (hs.cellAt 0 rfl rfl)) ?_; refine zAb rfl en79 (known_sl hs ((u.toNat : Nat) : Int)) ?_; clear hs; rintro _ w ⟨rfl, hs⟩; refine zA rfl (zC4 rfl) ?_; refine zA4 ?_; refine zAx rfl (zC8 ((by rw [decide_eq_true (show (1 : Int) ≤ ((u.toNat : Nat) : Int) by omega), decide_eq_true (show ((u.toNat : Nat) : Int) ≤ 4 by omega)]; rfl))) ?_; refine zAf ?_; refine zA6 ?_; refine zA6 (zA1 ?_); refine zA rfl (zA0 (v := .slice _ _ _) rfl) ?_; refine zA rfl (zC2 zC0 sz5 rfl rfl (lo := 9) rfl (by omega)) ?_
         refine zAb rfl en113 (maniG_sl hP hW hE hs (b := (X.take X.length).drop 9) ((hs.rdOwn 2 rfl).subB (by omega) (Nat.le_refl _)) (by simp) (by have := (hs.ownForm 2 rfl).2.1; omega) (by simp; omega)) ?_; clear hs; rintro _ w ⟨s1, s2, eb, rfl, hs⟩; rw [List.take_length] at hs ⊢; simp only [mfP, List.cons_append, List.nil_append] at hs; refine zA rfl (zA0 (v := .tuple _) rfl) ?_; refine zA rfl (zAa (v := .agg _) rfl rfl) ?_; refine zA rfl (zAa (v := flV ad _ _) rfl rfl) ?_; refine zA rfl (zA3 (o' := 1) zEa rfl zDf rfl rfl rfl) ?_; refine lw_storeMid hs 3 ((.int .i64 ((u.toNat : Nat) : Int) :: mfL (zGc (X.drop 9)).2 s1 s2)) rfl rfl rfl zDf rfl rfl rfl ?_; clear hs; intro w hs
         try simp only [List.set_cons_succ, List.set_cons_zero] at hs
         refine zA rfl (zA2 (v := flV ad _ _) rfl) ?_; refine zA4 ?_; refine zA6 ?_
         by_cases hF0 : (zGc (X.drop 9)).1.1 = 0
         ·
          rw [if_neg (fun h => h hF0)] at hR; subst hR; refine zA1 ?_; refine zA rfl (zA0 (v := flV ad _ _) rfl) ?_; refine zA rfl (zF7 (readG_place _) rfl) ?_; refine zA4 ?_; refine zAx rfl ((by rw [decide_eq_true hF0]; rfl)) ?_; refine zAf ?_; refine zA6 ?_; replace hs := hs.tail; refine zAy zBv (hs.arr [0, 1, 2, 3, 4, 5] 7 (by decide)) ?_; intro w tr hK; replace hs := tr _ hs; clear tr; refine zA5 0 rfl rfl (fun w hs => zA0 (v := .int .i64 _) rfl) hK ?_; refine zA5 1 rfl rfl (fun w hs => zBc hs 2 rfl zEa zEq rfl) hK ?_; refine zA5 2 rfl rfl (fun w hs => zA0 (v := .int .u64 _) rfl) hK ?_
          refine zA5 3 rfl rfl (fun w hs => zAh zBj uz3 rfl (c := ((N : Nat) : Int)) (zCp.wrap ⟨by omega, by omega⟩)) hK ?_; refine zA5 4 rfl rfl (fun w hs => zAs rfl rfl (c := ((4 + N : Nat) : Int)) (by omega) (inI (by omega) (by omega))) hK ?_; refine zA5 5 rfl rfl (fun w hs => zA2 (v := .int .i64 _) rfl) hK ?_; refine zA9 [6] ?_; refine ⟨⟨_, rfl, ?_⟩, trivial⟩; refine zAn hs 6 rfl rfl rfl zEq rfl rfl ?_; clear hs; intro w hs
          try simp only [List.set_cons_succ, List.set_cons_zero] at hs
          clear hK; have hK := hs.arr [0, 1, 2, 3, 4, 5] 7 (by decide); refine zA4 ⟨hK, ?_⟩; refine zA5 7 rfl rfl (fun w hs => zA2 (v := .int .i64 _) rfl) hK ?_; refine zA5 8 rfl rfl (fun w hs => zA2 (v := .nilIface) rfl) hK ?_; refine zAp (by kernel_rfl) ?_; clear hK; refine zAg ?_; refine zFd [(.tmp 2, .int .i64 _), (.cell 3 41, .agg _), (.tmp 4, .int .i64 _), (.tmp 5, .nilIface)] rfl ⟨rfl, ⟨_, rfl, zBq hs 6 rfl zEa zEq⟩, rfl, rfl, trivial⟩ ?_; exact ⟨_, rfl, s1, s2, rfl, hs.arr [0, 1] 7 (by decide)⟩
         ·
          rw [if_pos hF0] at hR; subst hR; refine zA1 ?_; refine zA rfl (zA0 (v := flV ad _ _) rfl) ?_; refine zA rfl (zF7 (readG_place _) rfl) ?_; refine zA4 ?_; refine zBb rfl ((by rw [decide_eq_false hF0]; rfl)) ?_; refine zA6 (zA1 ?_); refine zA rfl (zA0 (v := .func _ _ _) rfl) ?_; refine zA rfl (zA0 (v := flV ad _ _) rfl) ?_; refine zD2 rfl (cap := #[]) en116 rfl (zFt (ad := ad) hs (zGc (X.drop 9)).1 eb) ?_; clear hs; rintro _ w ⟨rfl, hs⟩; refine zA rfl (zAa (v := .int .i64 _) rfl rfl) ?_; refine zA rfl (zAa (v := .agg _) rfl rfl) ?_; refine zA rfl (zAa (v := .int .i64 _) rfl rfl) ?_; refine zA rfl (zAa (v := flV ad _ _) rfl rfl) ?_
          refine zA rfl (zA2 (v := .int .i64 _) rfl) ?_; refine zAn hs 7 rfl rfl rfl zEq rfl rfl ?_; clear hs; intro w hs
          try simp only [List.set_cons_succ, List.set_cons_zero] at hs
          refine zA rfl (zA2 (v := .int .i64 _) rfl) ?_; refine zA rfl (zA2 (v := flV ad _ _) rfl) ?_; refine zA4 ?_; refine zAg ?_; refine zFd [(.tmp 2, .int .i64 _), (.cell 3 41, .agg _), (.tmp 4, .int .i64 _), (.tmp 5, flV ad _ _)] rfl ⟨rfl, ⟨_, rfl, zBq hs 7 rfl zEa zEq⟩, rfl, rfl, trivial⟩ ?_; exact ⟨_, rfl, (zGc (X.drop 9)).1, eb, readG_place _, hF0, rfl, hs.arr [0] 8 (by decide)⟩
        ·
         rw [if_pos hk] at hR; subst hR; refine zA1 ?_; refine zA rfl (zA3 (o' := 0) zEa rfl sz3 rfl rfl rfl) ?_; refine zA rfl (zA8 uz3 rfl rfl (hs.cellAt 0 rfl rfl)) ?_; refine zAb rfl en79 (known_sl hs ((u.toNat : Nat) : Int)) ?_; clear hs; rintro _ w ⟨rfl, hs⟩; refine zA rfl (zC4 rfl) ?_; refine zA4 ?_; refine zBb rfl (zCn ((by by_cases h9 : 1 ≤ u.toNat; rw [decide_eq_false (show ¬ ((u.toNat : Nat) : Int) ≤ 4 by omega), Bool.and_false]; rw [decide_eq_false (show ¬ (1 : Int) ≤ ((u.toNat : Nat) : Int) by omega), Bool.false_and]))) ?_; refine zA6 (zA1 ?_); refine zA rfl (zA0 (v := .func _ _ _) rfl) ?_; refine zA rfl (zA8 zCq rfl rfl (hE.cellW hs 112 (by decide) rfl)) ?_
         refine zD2 rfl (cap := #[]) en116 rfl (zFt (ad := ad) hs (112, none) 0) ?_; clear hs; rintro _ w ⟨rfl, hs⟩; refine zA rfl (zAa (v := .int .i64 _) rfl rfl) ?_; refine zA rfl (zAa (v := .agg _) rfl rfl) ?_; refine zA rfl (zAa (v := .int .i64 _) rfl rfl) ?_; refine zA rfl (zAa (v := zAq ad _) rfl rfl) ?_; refine zA rfl (zA2 (v := .int .i64 _) rfl) ?_; refine zAn hs 4 rfl rfl rfl zEq rfl rfl ?_; clear hs; intro w hs
         try simp only [List.set_cons_succ, List.set_cons_zero] at hs
         refine zA rfl (zA2 (v := .int .i64 _) rfl) ?_; refine zA rfl (zA2 (v := zAq ad _) rfl) ?_; refine zA4 ?_; refine zAg ?_; refine zFd [(.tmp 2, .int .i64 _), (.cell 3 41, .agg _), (.tmp 4, .int .i64 _), (.tmp 5, zAq ad _)] rfl ⟨rfl, ⟨_, rfl, zBq hs 4 rfl zEa zEq⟩, rfl, rfl, trivial⟩ ?_; exact ⟨_, rfl, (112, none), 0, .inl rfl, by decide, rfl, (hs.arr [] 5 (by decide)).addE (zEd _)⟩
       ·
        refine zA1 ?_; refine zA rfl (zA0 (v := .slice _ _ _) rfl) ?_; refine zAb rfl en68 (zFv ad hs (b := X) (hs.rdOwn 0 rfl) rfl (by omega)) ?_; clear hs; rintro _ w ⟨rb2, rfl, hs⟩; refine zAb rfl en111 (fixN_sl hW hs (l := X.take 8) (rest := X.drop 8) (n := 8) (by omega) (by rw [List.drop_zero, List.take_append_drop]) h8l.symm (by decide)) ?_; clear hs; rintro _ w ⟨rfl, hs⟩; rw [← hqv]; refine zA rfl (zAh zBj uz2 rfl (c := ((q : Nat) : Int) - 18446744073709551616) (by simp [IntKind.wrap, IntKind.bits, IntKind.signed]; omega)) ?_; refine zA rfl (zA2 (v := .int .i64 _) rfl) ?_; refine zA4 ?_; refine zA6 ?_; obtain ⟨br, or_, rfl, _⟩ := hs.ownCells 1 rfl (by rw [zAu]; omega)
        refine zA1 ?_; refine zA rfl (zA0 (v := .slice _ _ _) rfl) ?_; refine zA rfl (zBk zC0 sz5 rfl rfl (i := 8) rfl (by omega) rfl) ?_; refine zA rfl (zA8 uz5 rfl rfl (hs.ownAt 1 rfl (zE2 hx8))) ?_; refine zA rfl (zAh uz5 uz3 rfl (c := ((u.toNat : Nat) : Int)) (zCp.wrap ⟨by omega, by omega⟩)) ?_; refine zA rfl (zC3 (cs := [.int .i64 ((u.toNat : Nat) : Int), .int .i64 0, .int .i64 0, .int .i64 0, .int .i64 0, .slice none 0 0, .slice none 0 0]) zEa ze41 pl41 rfl) ?_; refine zBd hs rfl ze41 ?_; clear hs; intro b11 w hs
        try simp only [List.set_cons_succ, List.set_cons_zero] at hs
        refine zAn hs 0 rfl rfl rfl zEq rfl rfl ?_; clear hs; intro w hs
        try simp only [List.set_cons_succ, List.set_cons_zero] at hs
        refine zA4 ?_; refine zA6 ?_; refine zA6 ?_; rw [if_pos (by omega)] at hR; subst hR; refine zA1 ?_; refine zA rfl (zA0 (v := .int .i64 _) rfl) ?_; refine zA rfl (zB7 rfl rfl) ?_; refine zA4 ?_; refine zBb rfl (decide_eq_true (by omega)) ?_; refine zA6 (zA1 ?_); refine zA rfl (zA0 (v := .func _ _ _) rfl) ?_; refine zA rfl (zA8 zCq rfl rfl (hE.cellW hs 105 (by decide) rfl)) ?_; refine zD2 rfl (cap := #[]) en116 rfl (zFt (ad := ad) hs (105, none) 0) ?_; clear hs; rintro _ w ⟨rfl, hs⟩; refine zA rfl (zAa (v := .int .i64 _) rfl rfl) ?_; refine zA rfl (zAa (v := .agg _) rfl rfl) ?_; refine zA rfl (zAa (v := .int .i64 _) rfl rfl) ?_; refine zA rfl (zAa (v := zAq ad _) rfl rfl) ?_
        refine zA rfl (zA2 (v := .int .i64 _) rfl) ?_; refine zAn hs 4 rfl rfl rfl zEq rfl rfl ?_; clear hs; intro w hs
        try simp only [List.set_cons_succ, List.set_cons_zero] at hs
        refine zA rfl (zA2 (v := .int .i64 _) rfl) ?_; refine zA rfl (zA2 (v := zAq ad _) rfl) ?_; refine zA4 ?_; refine zAg ?_; refine zFd [(.tmp 2, .int .i64 _), (.cell 3 41, .agg _), (.tmp 4, .int .i64 _), (.tmp 5, zAq ad _)] rfl ⟨rfl, ⟨_, rfl, zBq hs 4 rfl zEa zEq⟩, rfl, rfl, trivial⟩ ?_; exact ⟨_, rfl, (105, none), 0, .inl rfl, by decide, rfl, (hs.arr [] 5 (by decide)).addE (zEd _)⟩
/-- Of any bytes entry.Read answers something. -/
theorem erd_any {b : List UInt8} (hlen : b.length ≤ 1000000) : ErdC b (rdE b) := by
  refine ⟨hlen, fun q e z h => ?_, fun hP hW hE hs hr hn hc => enAny_sl hP hW hE hs hlen hr hn hc rfl⟩
  unfold rdE at h
  split at h
  · cases h
  · split at h
    · cases h
    · split at h
      · cases h
      · unfold rd2 at h
        split at h
        · cases h
        · split at h
          · cases h
          · split at h
            · cases h
            · split at h
              · cases h
              · split at h
                · cases h
                · rename_i h1 h2 h3 h4 h5 h6 h7 h8
                  cases h
                  have h9 := readG_ok (by simpa using h8); exact ⟨⟨h9.1, by simp only; omega, by simp only; omega, h9.2⟩, by omega, by omega, by omega⟩
end Go.Proofs.YtdkgdjnbpjjfmaaGreatDoor
namespace Go.Proofs.YtdkgdjnbpjjfmaaGreatDoor
set_option linter.all false
open Go.RowKit
attribute [local irreducible] zAq eV
variable {g w : World} {L M : List HP} {ad : Nat → Addr} {p d pv ev : Nat} {dk : Dk} {f : ByteArray → Option (List UInt8)} {V V0 U : Vw} {q q0 r c n : Nat} {es : List En}

/-- Opened, it has that view, and so many entries. -/
def OpenTo (f : ByteArray → Option (List UInt8)) (V : Vw) (q : Nat) : Prop := ∃ V0 q0 mb c n, Snp f V0 q0 ∧ V0.ok ∧ V0.sums ∧ V0.length ≤ 100 ∧ f mtN = some mb ∧ mb.length ≤ 1000000 ∧ Ent V0 q0 mb V q c n ∧ LgW (zDq f mtN (mb.take n)) q c n V
theorem LgSt.opens (h : LgSt f V0 q0 es V) (hq : q0 + es.length ≤ 32) : OpenTo f V (q0 + es.length) := by
  have hl := zDl es q0 h.ens; have h0 := h.len0; refine ⟨V0, q0, _, _, _, h.snap, h.ok0, h.sum0, by omega, h.file, by omega, h.ent hq, ?_⟩; rw [List.take_of_length_le (Nat.le_refl _), zDb h.file]; exact ⟨V0, q0, es, h, rfl, rfl, rfl⟩
/-- Some bytes of an entry stand behind. -/
theorem LgSt.torn (h : LgSt f V0 q0 es V) (hq : q0 + es.length ≤ 31) {e : En} (hE : EnOk e) (hap : (V.apply e.1 e.2).1 = (0, none)) (j : Nat) : OpenTo (zDq f mtN (frames q0 es ++ (frame (q0 + es.length + 1) e).take j)) V (q0 + es.length) ∨ OpenTo (zDq f mtN (frames q0 es ++ (frame (q0 + es.length + 1) e).take j)) (V.apply e.1 e.2).2 (q0 + es.length + 1) := by
  have hl := zDl es q0 h.ens; have h0 := h.len0; have hfl := frame_le (q := q0 + es.length + 1) hE
  by_cases hj : j < (frame (q0 + es.length + 1) e).length
  · left
    have hent := Ent.frames (tail := (frame (q0 + es.length + 1) e).take j) (W := V) (r := q0 + es.length) (c := 0) (n := 0) h.run h.ens (by rw [List.length_append, List.length_take]; omega) (by omega) (.none (.inr (erd_cut hE hj))); rw [Nat.zero_add, Nat.zero_add] at hent; refine ⟨V0, q0, _, _, _, h.snap.upd _, h.ok0, h.sum0, by omega, zBu _ _ _, by rw [List.length_append, List.length_take]; omega, hent, ?_⟩; rw [zEc, List.take_left, zDb h.file]; exact ⟨V0, q0, es, h, rfl, rfl, rfl⟩
  · right
    rw [List.take_of_length_le (by omega)]; have h1 := (h.app hE hap).opens (by simp; omega); rw [show q0 + (es ++ [e]).length = q0 + es.length + 1 by simp; omega] at h1; exact h1
/-- The snapshot is there, the file is not yet empty. -/
theorem LgSt.stale (h : LgSt f V0 q0 es V) (hq : q0 + es.length ≤ 32) : OpenTo (zDq f snN (zBt (snapB (q0 + es.length) V))) V (q0 + es.length) := by
  have hl := zDl es q0 h.ens; have hp := h.props; refine ⟨V, q0 + es.length, frames q0 es, 0, 0, .inr (zBu _ _ _), hp.1, hp.2.1, by omega, by rw [zDc _ _ mt_sn]; exact h.file, by omega, ?_, ⟨V, q0 + es.length, [], h.shot, rfl, rfl, rfl⟩⟩
  cases es with
  | nil => exact .none (.inl rfl)
  | cons e es =>
    have hE := h.ens e (List.mem_cons_self ..); simp only [frames, List.length_append, List.length_cons] at hl hq ⊢; exact .bad (erd_frame (q := q0 + 1) (rest := frames (q0 + 1) es) hE (by omega) (by rw [List.length_append]; omega)) (.inl (by omega))
/-- What stands between two steps, the power being there or gone; and the entry that was within. -/
structure KpI (dk : Dk) (V : Vw) (q : Nat) (V' : Vw) (q' c n : Nat) (last : En) (K : Nat) : Prop where
  room : dk.room = 1048576
  cl : dk.calls ≤ 100 * K + 6
  hq : q ≤ K
  st : dk.down = false ∧ last.1 = 0 ∧ V' = V ∧ q' = q ∧ (∃ f, LgI f dk ∧ LgW f q c n V) ∨
    dk.down = true ∧ last.1 = 0 ∧ (∀ picks, ∃ f, LgI f (dk.crash picks) ∧ OpenTo f V q) ∨
    dk.down = true ∧ last.1 ≠ 0 ∧ EnOk last ∧ (V.apply last.1 last.2).1 = (0, none) ∧ ∀ picks, ∃ f, LgI f (dk.crash picks) ∧ (OpenTo f V q ∨ OpenTo f (V.apply last.1 last.2).2 (q + 1))
theorem LgW.opens (h : LgW f q c n V) (hq : q ≤ 32) : OpenTo f V q := by
  obtain ⟨V0, q0, es, h, rfl, rfl, rfl⟩ := h; exact h.opens hq
theorem KpI.crash {V' : Vw} {q' K : Nat} {last : En} (h : KpI dk V q V' q' c n last K) (hK : K ≤ 31) (picks : List Int) : ∃ f, LgI f (dk.crash picks) ∧ (OpenTo f V q ∨ last.1 ≠ 0 ∧ EnOk last ∧ (V.apply last.1 last.2).1 = (0, none) ∧ OpenTo f (V.apply last.1 last.2).2 (q + 1)) := by
  have hq := h.hq
  rcases h.st with ⟨_, _, _, _, f, h1, h2⟩ | ⟨_, _, h1⟩ | ⟨_, h1, h2, h3, h4⟩
  · exact ⟨f, h1.st.crash h1.ok picks, .inl (h2.opens (by omega))⟩
  · obtain ⟨f, h2, h3⟩ := h1 picks
    exact ⟨f, h2, .inl h3⟩
  · obtain ⟨f, h5, h6⟩ := h4 picks
    exact ⟨f, h5, h6.imp id fun h7 => ⟨h1, h2, h3, h7⟩⟩
theorem KpI.up {V' : Vw} {q' K : Nat} {last : En} (h : KpI dk V q V' q' c n last K) (hd : dk.down = false) : last.1 = 0 ∧ V' = V ∧ q' = q ∧ ∃ f, LgI f dk ∧ LgW f q c n V := by
  rcases h.st with ⟨_, h1, h2, h3, h4⟩ | ⟨h1, _⟩ | ⟨h1, _⟩
  · exact ⟨h1, h2, h3, h4⟩
  · rw [hd] at h1; cases h1
  · rw [hd] at h1; cases h1
/-- Behind an Append of an entry that may come. -/
theorem KpI.step {V' : Vw} {q' K : Nat} {last : En} (h : KpI dk V q V' q' c n last K) (hd : dk.down = false) (hK : K ≤ 30) {e : En} (hE : EnOk e) (hap : (V.apply e.1 e.2).1 = (0, none)) {f : ByteArray → Option (List UInt8)} {V0 : Vw} {q0 : Nat} {es : List En} (hW : LgSt f V0 q0 es V) (hq0 : q = q0 + es.length) {k : Nat} {dk2 : Dk} {V2 : Vw} {q2 c2 n2 : Nat} (hA : AppOut f dk ev (V.apply e.1 e.2).2 q es.length (frames q0 es) (frame (q + 1) e) k dk2 V2 q2 c2 n2) :
    k = 0 ∧ dk2.down = false ∧ V2 = (V.apply e.1 e.2).2 ∧ q2 = q + 1 ∧ KpI dk2 (V.apply e.1 e.2).2 (q + 1) V2 q2 c2 n2 last (K + 1) ∨
    k = 0 ∧ dk2.down = true ∧ KpI dk2 (V.apply e.1 e.2).2 (q + 1) V2 q2 c2 n2 last (K + 1) ∨
    k = 110 ∧ dk2.down = true ∧ KpI dk2 V q V2 q2 c2 n2 e (K + 1) := by
  subst hq0; have hl0 := (h.up hd).1
  have hr := h.room; have hc := h.cl; have hq := h.hq
  obtain ⟨h1, h2, h3⟩ := hA; have happ := hW.app hE hap
  have hlen : q0 + (es ++ [e]).length = q0 + es.length + 1 := by simp; omega
  rcases h3 with ⟨rfl, h4, _, rfl, rfl, h5⟩ | ⟨rfl, h4, _, h5⟩ | ⟨rfl, h4, _, h5⟩
  · left
    refine ⟨rfl, h4, rfl, rfl, h1.trans hr, by omega, by omega, .inl ⟨h4, hl0, rfl, rfl, ?_⟩⟩
    rcases h5 with ⟨_, rfl, rfl, h6⟩ | ⟨_, rfl, rfl, h6⟩
    · exact ⟨_, h6, V0, q0, _, happ, by simp; omega, by simp, by rw [zF]; simp⟩
    · have h7 := happ.shot
      rw [hlen] at h7; exact ⟨_, h6, _, _, _, h7, rfl, rfl, rfl⟩
  · right; left
    refine ⟨rfl, h4, h1.trans hr, by omega, by omega, .inr (.inl ⟨h4, hl0, fun picks => ?_⟩)⟩
    rcases h5 picks with h6 | h6
    · have h7 := happ.opens (by rw [hlen]; omega)
      rw [hlen] at h7; exact ⟨_, h6, h7⟩
    · have h7 := happ.stale (by rw [hlen]; omega)
      rw [hlen] at h7; exact ⟨_, h6, h7⟩
  · right; right
    refine ⟨rfl, h4, h1.trans hr, by omega, by omega, .inr (.inr ⟨h4, by have := hE.2.1; omega, hE, hap, fun picks => ?_⟩)⟩; obtain ⟨j, h6⟩ := h5 picks; exact ⟨_, h6, hW.torn (by omega) hE hap j⟩
theorem KpI.more {V' : Vw} {q' K : Nat} {last : En} (h : KpI dk V q V' q' c n last K) : KpI dk V q V' q' c n last (K + 1) := ⟨h.room, by have := h.cl; omega, by have := h.hq; omega, h.st⟩
/-! ### the entry that was within -/
def LastC (b : Nat) (e : En) : HP := ex fun s : SA × SA => stars (cells b (.int .i64 e.1 :: mfL e.2 s.1 s.2) 41 :: mfP e.2 s.1 s.2)
end Go.Proofs.YtdkgdjnbpjjfmaaGreatDoor
namespace Go.Proofs.YtdkgdjnbpjjfmaaGreatDoor
set_option linter.all false
open Go.RowKit
variable {d e : Dk} {s n : ByteArray} {b v x : List UInt8} {f : ByteArray → Option (List UInt8)}

/-! ### what stands under names -/
def Con (d : Dk) (n : ByteArray) : Option (List UInt8) → Prop
  | none => zB5 d.names n = none
  | some v => ∃ i q y, zB5 d.names n = some i ∧ zB5 d.fs i = some ⟨q, v, y⟩
structure LgU (f : ByteArray → Option (List UInt8)) (d : Dk) : Prop where
  ok : d.ok
  up : d.down = false
  under : ∀ n ∈ LgN, Con d n (f n)
  apart : ∀ n ∈ LgN, ∀ m ∈ LgN, ∀ i, zB5 d.names n = some i → zB5 d.names m = some i → n = m
theorem RawI.toU (h : LgI f d) : LgU f d := ⟨h.ok, h.up, fun n hn => by
  have := h.st.under n hn
  cases hf : f n with
  | none => rw [hf] at this; exact this
  | some v => rw [hf] at this; obtain ⟨i, q, k1, k2⟩ := this; exact ⟨i, q, _, k1, k2⟩, h.st.apart⟩
theorem LgU.lenR (h : LgU f d) (hs : s ∈ LgN) : d.lenR s = (f s).elim (107, 0) fun v => (0, v.length) := by
  have hu := h.under s hs
  cases hf : f s with
  | none =>
    rw [hf] at hu; have h1 : zB5 d.names s = none := hu
    simp [Dk.lenR, Dk.file, h.up, h1]
  | some v =>
    rw [hf] at hu; obtain ⟨i, q, y, k1, k2⟩ := hu
    simp [Dk.lenR, Dk.file, h.up, k1, Dk.fl, k2]
theorem LgU.readR (h : LgU f d) (hs : s ∈ LgN) (hf : f s = some v) : d.readR s 0 (v.length : Int) = (0, v) := by
  have hu := h.under s hs; rw [hf] at hu; obtain ⟨i, q, y, k1, k2⟩ := hu; exact (Dk.readR_at (o := 0) (m := v.length) h.up k1 k2 (by show 0 + v.length ≤ v.length; omega)).trans (by simp)
theorem LgU.pread_none (h : LgU f d) (hs : s ∈ LgN) (hf : f s = none) : d.pread s = (107, []) := by
  have h1 := h.lenR hs; rw [hf] at h1
  simp [Dk.pread, h1]
theorem LgU.set (h : LgU f d) (hs : s ∈ LgN) {i q y : Nat} (hi : zB5 d.names s = some i) (ho : e.ok) (hu : e.down = false) (h1 : e.names = d.names) (h4 : ∀ j, j ≠ i → zB5 e.fs j = zB5 d.fs j) (hF : zB5 e.fs i = some ⟨q, v, y⟩) : LgU (zDq f s v) e := by
  refine ⟨ho, hu, fun n hn => ?_, by rw [h1]; exact h.apart⟩
  unfold zDq
  by_cases e1 : n = s
  · subst e1; rw [if_pos rfl]; exact ⟨i, q, y, by rw [h1]; exact hi, hF⟩
  · rw [if_neg e1]
    have h5 := h.under n hn
    cases hf : f n with
    | none => rw [hf] at h5; show zB5 e.names n = none; rw [h1]; exact h5
    | some v =>
      rw [hf] at h5; obtain ⟨a, q, y, k1, k2⟩ := h5; exact ⟨a, q, y, by rw [h1]; exact k1, by rw [h4 a fun ea => e1 (h.apart n hn s hs a k1 (ea ▸ hi))]; exact k2⟩
theorem LgU.cut (h : LgU f d) (ha : d.armed = 0) (hs : s ∈ LgN) (hf : f s = some v) {m : Nat} (hm : m ≤ v.length) : ∃ e, d.cut s m = (0, e) ∧ e.room = d.room ∧ e.armed = 0 ∧ e.calls ≤ d.calls + 1 ∧ (e.ok → LgU (zDq f s (v.take m)) e) := by
  have hu := h.under s hs; rw [hf] at hu; obtain ⟨i, q, y, hi, hF⟩ := hu
  have hfl : d.fl i = ⟨q, v, y⟩ := by simp [Dk.fl, hF]
  have hc : d.cut s m = (0, { d.setF i { d.fl i with b := (d.fl i).b.take m, syn := m } with calls := d.calls + 1 }) := by
    unfold Dk.cut
    rw [Dk.find_up h.up ha hi]; simp only [hfl]; rw [if_neg (by omega)]
    simp
  rw [hfl] at hc; refine ⟨_, hc, rfl, ha, Nat.le_refl _, fun ho => h.set (q := q) (y := m) hs hi ho h.up rfl (fun j hj => ?_) ?_⟩
  · show zB5 (zCd d.fs i _) j = _
    exact zB1 _ _ hj
  · show zB5 (zCd d.fs i _) i = _
    rw [zB9]
theorem LgU.sync (h : LgU f d) (ha : d.armed = 0) (hs : s ∈ LgN) (hf : f s = some v) : ∃ e, d.sync s = (0, e) ∧ e.room = d.room ∧ e.armed = 0 ∧ e.calls ≤ d.calls + 1 ∧ (e.ok → LgU f e) := by
  have hu := h.under s hs; rw [hf] at hu; obtain ⟨i, q, y, hi, hF⟩ := hu
  have hfl : d.fl i = ⟨q, v, y⟩ := by simp [Dk.fl, hF]
  have hsy := Dk.sync_up (n := s) h.up ha hi; rw [hfl] at hsy; refine ⟨_, hsy, rfl, ha, Nat.le_refl _, fun ho => ?_⟩; rw [← zDb hf]; refine h.set (q := q) (y := v.length) hs hi ho h.up rfl (fun j hj => ?_) ?_
  · show zB5 (zCd d.fs i _) j = _
    exact zB1 _ _ hj
  · show zB5 (zCd d.fs i _) i = _
    rw [zB9]
/-- Bytes laid behind, and not synced. -/
theorem RawI.lay (h : LgI f d) (ha : d.armed = 0) (hs : s ∈ LgN) (hf : f s = some v) (hx : x.length ≤ 200000) (hr : 1000000 ≤ d.room) : ∃ e, d.append s x = (0, e) ∧ e.room = d.room ∧ e.armed = 0 ∧ e.calls ≤ d.calls + 1 ∧ (e.ok → LgU (zDq f s (v ++ x)) e) := by
  have hu := h.st.under s hs; rw [hf] at hu; obtain ⟨i, q, hi, hF⟩ := hu; have hus : d.used ≤ 800000 := h.used
  have hfl : d.fl i = ⟨q, v, v.length⟩ := by simp [Dk.fl, hF]
  have hap := Dk.append_up (n := s) (b := x) h.up ha hi (by omega); rw [hfl] at hap; refine ⟨_, hap, rfl, ha, Nat.le_refl _, fun ho => h.toU.set (q := q) (y := v.length) hs hi ho h.up rfl (fun j hj => ?_) ?_⟩
  · show zB5 (zCd d.fs i _) j = _
    exact zB1 _ _ hj
  · show zB5 (zCd d.fs i _) i = _
    rw [zB9]
/-! ### what reading goes on to -/
inductive EntR : Vw → Nat → List UInt8 → Vw → Nat → Nat → Nat → Prop
  | none {V : Vw} {q : Nat} {b : List UInt8} (h : b = [] ∨ rdE b = .none) : EntR V q b V q 0 0
  | bad {V : Vw} {q s z : Nat} {e : En} {b : List UInt8} (h : rdE b = some (s, e, z)) (hb : s ≠ q + 1 ∨ (V.apply e.1 e.2).1.1 ≠ 0) : EntR V q b V q 0 0
  | step {V U : Vw} {q r z c n : Nat} {e : En} {b : List UInt8} (h : rdE b = some (q + 1, e, z)) (ha : (V.apply e.1 e.2).1 = (0, .none)) (hn : EntR (V.apply e.1 e.2).2 (q + 1) (b.drop z) U r c n) : EntR V q b U r (c + 1) (n + z)
theorem erd_of {b : List UInt8} (hlen : b.length ≤ 1000000) {r : Option (Nat × En × Nat)} (h : rdE b = r) : ErdC b r := h ▸ erd_any hlen
theorem EntR.ent {V U : Vw} {q r c n : Nat} {b : List UInt8} (h : EntR V q b U r c n) : b.length ≤ 1000000 → Ent V q b U r c n := by
  induction h with
  | none h => exact fun hl => .none (h.imp id fun h => erd_of hl h)
  | bad h hb => exact fun hl => .bad (erd_of hl h) hb
  | step h ha _ ih => exact fun hl => .step (erd_of hl h) ha (ih (by rw [List.length_drop]; omega))
theorem EntR.any : ∀ (k : Nat) (b : List UInt8), b.length ≤ k → b.length ≤ 1000000 → ∀ (V : Vw) (q : Nat), ∃ U r c n, EntR V q b U r c n
  | k, b, hk, hl, V, q => by
    cases hr : rdE b with
    | none => exact ⟨_, _, _, _, .none (.inr hr)⟩
    | some r =>
      obtain ⟨s, e, z⟩ := r; have hz := (erd_of hl hr).fine _ _ _ rfl
      by_cases hs : s = q + 1
      · rcases V.apply_two e.1 e.2 with ha | ha
        · subst hs
          match k, hk with
          | 0, hk => omega
          | k + 1, hk =>
            obtain ⟨U, r, c, n, h⟩ := EntR.any k (b.drop z) (by rw [List.length_drop]; omega) (by rw [List.length_drop]; omega) (V.apply e.1 e.2).2 (q + 1); exact ⟨_, _, _, _, .step hr ha h⟩
        · exact ⟨_, _, _, _, .bad hr (.inr ha)⟩
      · exact ⟨_, _, _, _, .bad hr (.inl hs)⟩
theorem rdE_at {b : List UInt8} {s z : Nat} {e : En} (h : rdE b = some (s, e, z)) : z = 4 + valL (b.take 4) ∧ z ≤ b.length ∧ 4 ≤ b.length := by
  unfold rdE at h
  by_cases h1 : b.length < 4
  · rw [if_pos h1] at h; cases h
  · rw [if_neg h1] at h
    by_cases h2 : 65536 < valL (b.take 4)
    · rw [if_pos h2] at h; cases h
    · rw [if_neg h2] at h
      by_cases h3 : b.length - 4 < valL (b.take 4)
      · rw [if_pos h3] at h; cases h
      · rw [if_neg h3] at h
        have hz : z = 4 + valL (b.take 4) := by
          unfold rd2 at h
          repeat' split at h
          all_goals first | (cases h; done) | (cases h; rfl)
        exact ⟨hz, by omega, by omega⟩
theorem rdE_take {b : List UInt8} {s z : Nat} {e : En} (h : rdE b = some (s, e, z)) {m : Nat} (hm : z ≤ m) : rdE (b.take m) = some (s, e, z) := by
  obtain ⟨h1, h2, h3⟩ := rdE_at h
  have e1 : (b.take m).take 4 = b.take 4 := by rw [List.take_take, Nat.min_eq_left (by omega)]
  have e2 : (b.take m).take z = b.take z := by rw [List.take_take, Nat.min_eq_left hm]
  have h4 := h
  unfold rdE at h ⊢
  rw [e1, ← h1, e2]; rw [← h1] at h; rw [if_neg (by omega)] at h; rw [if_neg (by rw [List.length_take]; omega)]
  by_cases h5 : 65536 < valL (b.take 4)
  · rw [if_pos h5] at h; cases h
  · rw [if_neg h5] at h ⊢
    rw [if_neg (by omega)] at h; rw [if_neg (by rw [List.length_take]; omega)]; exact h
theorem EntR.cut {V U : Vw} {q r c n : Nat} {b : List UInt8} (h : EntR V q b U r c n) : EntR V q (b.take n) U r c n := by
  induction h with
  | none h => exact .none (.inl (List.take_zero))
  | bad h hb => exact .none (.inl (List.take_zero))
  | @step V U q r z c n e b h ha hn ih =>
    refine .step (rdE_take h (by omega)) ha ?_; rw [List.drop_take, Nat.add_sub_cancel]; exact ih
theorem EntR.props {V U : Vw} {q r c n : Nat} {b : List UInt8} (h : EntR V q b U r c n) : r = q + c ∧ n ≤ b.length ∧ c ≤ b.length ∧ (c = 0 → U = V ∧ n = 0) := by
  induction h with
  | none h => exact ⟨rfl, Nat.zero_le _, Nat.zero_le _, fun _ => ⟨rfl, rfl⟩⟩
  | bad h hb => exact ⟨rfl, Nat.zero_le _, Nat.zero_le _, fun _ => ⟨rfl, rfl⟩⟩
  | step h ha hn ih =>
    have hz := rdE_at h; rw [List.length_drop] at ih; exact ⟨by omega, by omega, by omega, fun h => by omega⟩
end Go.Proofs.YtdkgdjnbpjjfmaaGreatDoor
namespace Go.Proofs.YtdkgdjnbpjjfmaaGreatDoor
set_option linter.all false
open Go.RowKit
attribute [local irreducible] zAq eV
variable {g w : World} {L M : List HP} {ad : Nat → Addr} {p d pv ev : Nat} {dk : Dk} {f : ByteArray → Option (List UInt8)} {V U : Vw} {q r c n : Nat} {b mb : List UInt8}

set_option maxHeartbeats 2000000 in
set_option maxRecDepth 10000 in
theorem entriesU_sl (hM : ErrM ad g) {V0 : Vw} {q0 : Nat} {mb : List UInt8} (hI : LgU f dk) (ha : dk.armed = 0) (hcl : dk.calls < 900000) (hf : f mtN = some mb) (hml : mb.length ≤ 1000000) (hent : Ent V0 q0 mb V q c n) (hq : q < 4611686018427387904) (hs : Mem g w (lgP p d ev pv q0 0 0 :: zD1 pv V0 :: zBz d dk :: L)) :
    Calls Tryz.prog 36 #[.pointer (some ⟨p, 0, none⟩), .int .i64 (mb.length : Nat)] w (Ret fun v w' => v = .nilIface ∧ ∃ dk2, dk2.armed = 0 ∧ dk2.room = dk.room ∧ dk2.calls ≤ dk.calls + 2 ∧ LgU (zDq f mtN (mb.take n)) dk2 ∧ Mem g w' (lgP p d ev pv q c n :: zD1 pv V :: zBz d dk2 :: L)) := by
  have hK := hM.toK; have hV := hM.toV; have hle := hent.le; refine zAo Tryz.func36 rfl rfl ?_
  skip
  refine zA6 (zA1 ?_); refine zA rfl (zA2 (v := .nilIface) rfl) ?_; refine zA4 (zA6 (zA1 ?_)); refine zA rfl (zA0 (v := .pointer (some _)) rfl) ?_; refine zA rfl (zA7 rfl) ?_; refine zA rfl (zA3 (o' := 0) zCf rfl sz25 rfl rfl rfl) ?_; refine zA rfl (zA8 uz25 rfl rfl (hs.cellAt 0 rfl rfl)) ?_; refine zA rfl (zA0 (v := .int .i64 _) rfl) ?_; refine zAb rfl en76 (read_sl hK (hs.arr [2, 0, 1] 3 (by decide)) mtN (off := 0) (m := (mb.length : Int)) (inI (by decide) (by decide)) (inI (by omega) (by omega)) (hI.readR zCu hf)) ?_; clear hs; rintro _ w ⟨a18, c18, rfl, hs⟩; rw [zB6]; refine zA rfl (zA0 (v := .tuple _) rfl) ?_; refine zA rfl (zAa (v := .slice _ _ _) rfl rfl) ?_
  refine zA rfl (zAa (v := .nilIface) rfl rfl) ?_; refine zA rfl (zA2 (v := .slice _ _ _) rfl) ?_; refine zA rfl (zA2 (v := .nilIface) rfl) ?_; refine zA4 ?_; refine zA6 ?_; refine zA6 (zA1 ?_); refine zA rfl (zA0 (v := .nilIface) rfl) ?_; refine zA rfl (zBf rfl) ?_; refine zA4 ?_; refine zAx rfl (rfl) ?_; refine zAf ?_; refine zA6 ?_; refine zAw ?_
  refine zBw (X := Vw × Nat × Nat × Nat) [7, 8, 9, 10, 24, 25, 26, 27, 28, 29, 30, 31, 32, 33, 34, 35, 36, 37, 38, 39, 40, 41, 42, 43, 44, 45, 46, 47, 48, 49, 50, 51, 52, 53, 54, 55, 56, 57, 58, 59, 60, 61, 62, 63, 64, 65, 66, 67, 68, 69, 70, 71, 72, 73, 74, 75, 76, 77, 78, 79, 80, 81, 82, 83, 84, 85, 86, 87, 88, 89] (fun x => []) (fun x w => (x.2.2.2 ≤ mb.length ∧ ∃ c' n', Ent x.1 x.2.1 (mb.drop x.2.2.2) V q c' n' ∧ x.2.2.1 + c' = c ∧ x.2.2.2 + n' = n) ∧ Mem g w (lgP p d ev pv x.2.1 x.2.2.1 x.2.2.2 :: own (.slice a18 mb.length c18) (zAm mb) :: zBz d dk :: zD1 pv x.1 :: L)) (fun x => mb.length - x.2.2.2) ((V0, q0, 0, 0)) ?_ ?_ ?_
  · exact trivial
  · exact ⟨⟨Nat.zero_le _, c, n, hent, Nat.zero_add _, Nat.zero_add _⟩, hs.arr [2, 0, 1, 3] 4 (by decide)⟩
  clear hs; rintro x ξ w hI; obtain ⟨W, qc, cc, pos⟩ := x; obtain ⟨⟨hpl, c', n', hE, hce, hne⟩, hs⟩ := hI; simp only at hpl hE hce hne hs; have hEl := hE.le; refine zA6 ?_; refine zA6 (zA1 ?_); refine zA rfl (zA0 (v := .pointer (some _)) rfl) ?_; refine zA rfl (zA7 rfl) ?_; refine zA rfl (zA3 (o' := 5) zCf rfl sz3 rfl rfl rfl) ?_; refine zA rfl (zA8 uz3 rfl rfl (hs.cellAt 0 rfl rfl)) ?_; refine zA rfl (zA0 (v := .int .i64 _) rfl) ?_; refine zA rfl (zB7 rfl rfl) ?_; refine zA4 ?_; refine zB8 rfl ?_ ?_
  ·
   intro h29; have g29 := of_decide_eq_true h29
   have hbn : mb.drop pos ≠ [] := fun e => by have := List.drop_eq_nil_iff.1 e; omega
   have hcap := (hs.ownForm 1 rfl).2.1; refine zAf ?_; refine zAw ?_; refine zA6 ?_
   obtain ⟨hr, rfl, rfl, rfl, rfl⟩ | ⟨s, z, k, x, hr, hbs, rfl, rfl, rfl, rfl⟩ | ⟨z, k, x, hr, hba, rfl, rfl, rfl, rfl⟩ | ⟨z, k, x, c2, n2, hr, hap, hE2, rfl, rfl⟩ := hE.inv hbn
   ·
    refine zA1 ?_; refine zA rfl (zA0 (v := .slice _ _ _) rfl) ?_; refine zA rfl (zA0 (v := .pointer (some _)) rfl) ?_; refine zA rfl (zA7 rfl) ?_; refine zA rfl (zA3 (o' := 5) zCf rfl sz3 rfl rfl rfl) ?_; refine zA rfl (zA8 uz3 rfl rfl (hs.cellAt 0 rfl rfl)) ?_; refine zA rfl (zC2 zC0 sz5 rfl rfl (lo := pos) rfl (by omega)) ?_; refine zAb rfl en77 (hr.calls hM.toP hM.toW hV hs (by have h9 := (hs.rdOwn 1 rfl).subB (lo := pos) (hi := mb.length) (by omega) (Nat.le_refl _); rw [List.take_length] at h9; exact h9) (by simp) (by omega)) ?_; clear hs; rintro _ w ⟨fe, eb, hfp, hf0, rfl, hs⟩; refine zA rfl (zA0 (v := .tuple _) rfl) ?_; refine zA rfl (zAa (v := .int .i64 _) rfl rfl) ?_
    refine zA rfl (zAa (v := .agg _) rfl rfl) ?_; refine zA rfl (zAa (v := .int .i64 _) rfl rfl) ?_; refine zA rfl (zAa (v := flV ad _ _) rfl rfl) ?_; refine zBd hs rfl ze41 ?_; clear hs; intro b8 w hs
    try simp only [List.set_cons_succ, List.set_cons_zero] at hs
    refine zA rfl (zA2 (v := .int .i64 _) rfl) ?_; refine zAn hs 0 rfl rfl rfl zEq rfl rfl ?_; clear hs; intro w hs
    try simp only [List.set_cons_succ, List.set_cons_zero] at hs
    refine zA rfl (zA2 (v := .int .i64 _) rfl) ?_; refine zA rfl (zA2 (v := flV ad _ _) rfl) ?_; refine zA4 ?_; refine zA6 ?_; refine zA6 ?_; refine zAy zBv (hs.drop 5) ?_; intro w tr hK; replace hs := tr _ hs; clear tr; refine zA5 0 rfl rfl (fun w hs => zA0 (v := flV ad _ _) rfl) hK ?_; refine zA5 1 rfl rfl (fun w hs => zF7 hfp rfl) hK ?_; refine zA5 2 rfl rfl (fun w hs => zA0 (v := .bool _) rfl) hK ?_; refine zAd 3 rfl rfl rfl rfl ((by simp [hf0])) hK ?_; refine zAd 4 rfl rfl rfl rfl ((by simp [hf0])) hK ?_; refine zAd 5 rfl rfl rfl rfl ((by simp [hf0])) hK ?_; refine zAd 6 rfl rfl rfl rfl ((by simp [hf0])) hK ?_; refine zAd 7 rfl rfl rfl rfl ((by simp [hf0])) hK ?_
    refine zA5 8 rfl rfl (fun w hs => zAj (v := .bool _) rfl ((by simp [hf0])) rfl) hK ?_; refine zA5 9 rfl rfl (fun w hs => zA0 (v := .bool _) rfl) hK ?_; refine zAd 10 rfl rfl rfl rfl rfl hK ?_; refine zAd 11 rfl rfl rfl rfl rfl hK ?_; refine zAd 12 rfl rfl rfl rfl rfl hK ?_; refine zAd 13 rfl rfl rfl rfl rfl hK ?_; refine zAd 14 rfl rfl rfl rfl rfl hK ?_; refine zAd 15 rfl rfl rfl rfl rfl hK ?_; refine zAd 16 rfl rfl rfl rfl rfl hK ?_; refine zA5 17 rfl rfl (fun w hs => zAj (v := .bool _) rfl rfl rfl) hK ?_; refine zA5 18 rfl rfl (fun w hs => zA0 (v := .bool _) rfl) hK ?_; refine zAd 19 rfl rfl rfl rfl rfl hK ?_; refine zAd 20 rfl rfl rfl rfl rfl hK ?_
    refine zAd 21 rfl rfl rfl rfl rfl hK ?_; refine zAd 22 rfl rfl rfl rfl rfl hK ?_; refine zAd 23 rfl rfl rfl rfl rfl hK ?_; refine zAd 24 rfl rfl rfl rfl rfl hK ?_; refine zAd 25 rfl rfl rfl rfl rfl hK ?_; refine zA5 26 rfl rfl (fun w hs => zAj (v := .bool _) rfl rfl rfl) hK ?_; refine zAp (by kernel_rfl) ?_; clear hK; refine zBb rfl rfl ?_; refine zBg rfl ?_; refine zA6 ?_; refine zA6 ?_
    have e5 : c = cc := by omega
    subst e5
    have e6 : n = pos := by omega
    subst e6; have h9 : Mem g w (lgP p d ev pv q c n :: own (.slice a18 mb.length c18) (zAm mb) :: zBz d dk :: zD1 pv V :: L) := hs.tail.tail; replace hs := h9; clear h9; refine zA1 ?_; refine zA rfl (zA0 (v := .pointer (some _)) rfl) ?_; refine zA rfl (zA7 rfl) ?_; refine zA rfl (zA3 (o' := 5) zCf rfl sz3 rfl rfl rfl) ?_; refine zA rfl (zA8 uz3 rfl rfl (hs.cellAt 0 rfl rfl)) ?_; refine zA rfl (zA0 (v := .int .i64 _) rfl) ?_; refine zA rfl (zBn rfl rfl) ?_; refine zA4 ?_; refine zB8 rfl ?_ ?_
    ·
     intro h95; have g95 := of_decide_eq_true h95; refine zA6 (zA1 ?_); refine zA rfl (zA2 (v := .nilIface) rfl) ?_; refine zA4 ?_; refine zAg ?_; refine zBl (v := .nilIface) rfl rfl ?_; exact ⟨_, rfl, rfl, dk, ha, rfl, by omega, by rw [List.take_of_length_le (by omega), zDb hf]; exact hI, hs.arr [0, 3, 2] 4 (by decide)⟩
    ·
     intro h95; have g95 := of_decide_eq_false h95; obtain ⟨dc, hcut, hcr, har2, hcc, hI4⟩ := hI.cut ha zCu hf (m := n) (by omega); refine zAf ?_; refine zA6 ?_; refine zA6 ?_; refine zAy zBv (hs.drop 2) ?_; intro w tr hK; replace hs := tr _ hs; clear tr; refine zA5 0 rfl rfl (fun w hs => zA0 (v := .pointer (some _)) rfl) hK ?_; refine zA5 1 rfl rfl (fun w hs => zA7 rfl) hK ?_; refine zA5 2 rfl rfl (fun w hs => zA3 (o' := 0) zCf rfl sz25 rfl rfl rfl) hK ?_; refine zA5 3 rfl rfl (fun w hs => zA8 uz25 rfl rfl (hs.cellAt 0 rfl rfl)) hK ?_; refine zA5 4 rfl rfl (fun w hs => zA0 (v := .pointer (some _)) rfl) hK ?_; refine zA5 5 rfl rfl (fun w hs => zA7 rfl) hK ?_
     refine zA5 6 rfl rfl (fun w hs => zA3 (o' := 5) zCf rfl sz3 rfl rfl rfl) hK ?_; refine zA5 7 rfl rfl (fun w hs => zA8 uz3 rfl rfl (hs.cellAt 0 rfl rfl)) hK ?_; refine zA9 [8] ?_; refine ⟨⟨_, rfl, ?_⟩, trivial⟩; refine zAb rfl en18 (cut_sl hM.toK (hs.arr [2, 0, 1, 3] 4 (by decide)) (by omega) mtN (m := ((n : Nat) : Int)) (inI (by omega) (by omega)) hcut) ?_; clear hs; rintro _ w ⟨rfl, hs⟩; clear hK; have hK := hs.tail; refine zA4 ⟨hK, ?_⟩; refine zA5 9 rfl rfl (fun w hs => zA2 (v := zAq ad _) rfl) hK ?_; refine zAp (by kernel_rfl) ?_; clear hK; refine zA6 (zA1 ?_); refine zA rfl (zA0 (v := zAq ad _) rfl) ?_; refine zA rfl (zAt (ad := ad) rfl) ?_; refine zA4 ?_
     refine zAx rfl (rfl) ?_; refine zAf ?_; refine zA6 ?_; have hI5 := hI4 (hs.openD).1; obtain ⟨ds, hsy, hsr, hsa, hsc, hI6⟩ := hI5.sync har2 zCu (zBu _ _ _); refine zA1 ?_; refine zA rfl (zA0 (v := .pointer (some _)) rfl) ?_; refine zA rfl (zA7 rfl) ?_; refine zA rfl (zA3 (o' := 0) zCf rfl sz25 rfl rfl rfl) ?_; refine zA rfl (zA8 uz25 rfl rfl (hs.cellAt 1 rfl rfl)) ?_; refine zAb rfl en39 (zFs hM.toK hs (by omega) mtN hsy) ?_; clear hs; rintro _ w ⟨rfl, hs⟩; refine zA rfl (zA2 (v := zAq ad _) rfl) ?_; refine zA4 ?_; refine zAg ?_; refine zBl (v := zAq ad _) rfl rfl ?_; exact ⟨_, rfl, zB6 ad, ds, hsa, hsr.trans hcr, by omega, hI6 (hs.openD).1, hs.arr [1, 3, 0] 4 (by decide)⟩
   ·
    refine zA1 ?_; refine zA rfl (zA0 (v := .slice _ _ _) rfl) ?_; refine zA rfl (zA0 (v := .pointer (some _)) rfl) ?_; refine zA rfl (zA7 rfl) ?_; refine zA rfl (zA3 (o' := 5) zCf rfl sz3 rfl rfl rfl) ?_; refine zA rfl (zA8 uz3 rfl rfl (hs.cellAt 0 rfl rfl)) ?_; refine zA rfl (zC2 zC0 sz5 rfl rfl (lo := pos) rfl (by omega)) ?_; refine zAb rfl en77 (hr.calls hM.toP hM.toW hV hs (by have h9 := (hs.rdOwn 1 rfl).subB (lo := pos) (hi := mb.length) (by omega) (Nat.le_refl _); rw [List.take_length] at h9; exact h9) (by simp) (by omega)) ?_; clear hs; rintro _ w ⟨s1, s2, rfl, hs⟩; simp only [mfP, List.cons_append, List.nil_append] at hs; refine zA rfl (zA0 (v := .tuple _) rfl) ?_
    refine zA rfl (zAa (v := .int .i64 _) rfl rfl) ?_; refine zA rfl (zAa (v := .agg _) rfl rfl) ?_; refine zA rfl (zAa (v := .int .i64 _) rfl rfl) ?_; refine zA rfl (zAa (v := .nilIface) rfl rfl) ?_; refine zBd hs rfl ze41 ?_; clear hs; intro b8 w hs
    try simp only [List.set_cons_succ, List.set_cons_zero] at hs
    refine zA rfl (zA2 (v := .int .i64 _) rfl) ?_; refine zAn hs 0 rfl rfl rfl zEq rfl rfl ?_; clear hs; intro w hs
    try simp only [List.set_cons_succ, List.set_cons_zero] at hs
    refine zA rfl (zA2 (v := .int .i64 _) rfl) ?_; refine zA rfl (zA2 (v := .nilIface) rfl) ?_; refine zA4 ?_; refine zA6 ?_; refine zA6 ?_; refine zAy zBv (hs.drop 6) ?_; intro w tr hK; replace hs := tr _ hs; clear tr; refine zA5 0 rfl rfl (fun w hs => zA0 (v := .nilIface) rfl) hK ?_; refine zA5 1 rfl rfl (fun w hs => zBf rfl) hK ?_; refine zA5 2 rfl rfl (fun w hs => zA0 (v := .bool _) rfl) hK ?_; refine zAe 3 rfl rfl rfl rfl (rfl) (fun w hs => zA0 (v := .pointer (some _)) rfl) hK ?_; refine zAe 4 rfl rfl rfl rfl (rfl) (fun w hs => zA7 rfl) hK ?_; refine zAe 5 rfl rfl rfl rfl (rfl) (fun w hs => zA3 (o' := 3) zCf rfl sz2 rfl rfl rfl) hK ?_
    refine zAe 6 rfl rfl rfl rfl (rfl) (fun w hs => zA8 uz2 rfl rfl (hs.cellAt 3 rfl rfl)) hK ?_; refine zAe 7 rfl rfl rfl rfl (rfl) (fun w hs => zBn rfl rfl) hK ?_; refine zA5 8 rfl rfl (fun w hs => zAk (v := .bool _) rfl (rfl) rfl) hK ?_; refine zA5 9 rfl rfl (fun w hs => zA0 (v := .bool _) rfl) hK ?_; refine zAe 10 rfl rfl rfl rfl (decide_eq_false (by omega)) (fun w hs => zA0 (v := .int .i64 _) rfl) hK ?_; refine zAe 11 rfl rfl rfl rfl (decide_eq_false (by omega)) (fun w hs => zA0 (v := .pointer (some _)) rfl) hK ?_; refine zAe 12 rfl rfl rfl rfl (decide_eq_false (by omega)) (fun w hs => zA7 rfl) hK ?_
    refine zAe 13 rfl rfl rfl rfl (decide_eq_false (by omega)) (fun w hs => zA3 (o' := 3) zCf rfl sz2 rfl rfl rfl) hK ?_; refine zAe 14 rfl rfl rfl rfl (decide_eq_false (by omega)) (fun w hs => zA8 uz2 rfl rfl (hs.cellAt 3 rfl rfl)) hK ?_; refine zAe 15 rfl rfl rfl rfl (decide_eq_false (by omega)) (fun w hs => zAs rfl rfl (c := ((q + 1 : Nat) : Int)) (by omega) (inI (by omega) (by omega))) hK ?_; refine zAe 16 rfl rfl rfl rfl (decide_eq_false (by omega)) (fun w hs => zDh rfl rfl) hK ?_; refine zA5 17 rfl rfl (fun w hs => zAk (v := .bool _) rfl (decide_eq_false (by omega)) rfl) hK ?_; refine zA5 18 rfl rfl (fun w hs => zA0 (v := .bool _) rfl) hK ?_
    refine zAd 19 rfl rfl rfl rfl ((by first | (rw [decide_eq_false (show ¬ ((s : Nat) : Int) = ((q + 1 : Nat) : Int) by omega)]; rfl) | rw [decide_eq_false (show ¬ ((s : Nat) : Int) = ((q + 1 : Nat) : Int) by omega)])) hK ?_; refine zAd 20 rfl rfl rfl rfl ((by first | (rw [decide_eq_false (show ¬ ((s : Nat) : Int) = ((q + 1 : Nat) : Int) by omega)]; rfl) | rw [decide_eq_false (show ¬ ((s : Nat) : Int) = ((q + 1 : Nat) : Int) by omega)])) hK ?_; refine zAd 21 rfl rfl rfl rfl ((by first | (rw [decide_eq_false (show ¬ ((s : Nat) : Int) = ((q + 1 : Nat) : Int) by omega)]; rfl) | rw [decide_eq_false (show ¬ ((s : Nat) : Int) = ((q + 1 : Nat) : Int) by omega)])) hK ?_
    refine zAd 22 rfl rfl rfl rfl ((by first | (rw [decide_eq_false (show ¬ ((s : Nat) : Int) = ((q + 1 : Nat) : Int) by omega)]; rfl) | rw [decide_eq_false (show ¬ ((s : Nat) : Int) = ((q + 1 : Nat) : Int) by omega)])) hK ?_; refine zAd 23 rfl rfl rfl rfl ((by first | (rw [decide_eq_false (show ¬ ((s : Nat) : Int) = ((q + 1 : Nat) : Int) by omega)]; rfl) | rw [decide_eq_false (show ¬ ((s : Nat) : Int) = ((q + 1 : Nat) : Int) by omega)])) hK ?_; refine zAd 24 rfl rfl rfl rfl ((by first | (rw [decide_eq_false (show ¬ ((s : Nat) : Int) = ((q + 1 : Nat) : Int) by omega)]; rfl) | rw [decide_eq_false (show ¬ ((s : Nat) : Int) = ((q + 1 : Nat) : Int) by omega)])) hK ?_
    refine zAd 25 rfl rfl rfl rfl ((by first | (rw [decide_eq_false (show ¬ ((s : Nat) : Int) = ((q + 1 : Nat) : Int) by omega)]; rfl) | rw [decide_eq_false (show ¬ ((s : Nat) : Int) = ((q + 1 : Nat) : Int) by omega)])) hK ?_
    first | refine zA5 26 rfl rfl (fun w hs => zAj (v := .bool _) rfl ((by first | (rw [decide_eq_false (show ¬ ((s : Nat) : Int) = ((q + 1 : Nat) : Int) by omega)]; rfl) | rw [decide_eq_false (show ¬ ((s : Nat) : Int) = ((q + 1 : Nat) : Int) by omega)])) rfl) hK ?_
    refine zAp (by kernel_rfl) ?_; clear hK; refine zBb rfl rfl ?_; refine zBg rfl ?_; refine zA6 ?_; refine zA6 ?_
    have e5 : c = cc := by omega
    subst e5
    have e6 : n = pos := by omega
    subst e6; have h9 : Mem g w (lgP p d ev pv q c n :: own (.slice a18 mb.length c18) (zAm mb) :: zBz d dk :: zD1 pv V :: L) := hs.tail.tail.tail; replace hs := h9; clear h9; refine zA1 ?_; refine zA rfl (zA0 (v := .pointer (some _)) rfl) ?_; refine zA rfl (zA7 rfl) ?_; refine zA rfl (zA3 (o' := 5) zCf rfl sz3 rfl rfl rfl) ?_; refine zA rfl (zA8 uz3 rfl rfl (hs.cellAt 0 rfl rfl)) ?_; refine zA rfl (zA0 (v := .int .i64 _) rfl) ?_; refine zA rfl (zBn rfl rfl) ?_; refine zA4 ?_; refine zB8 rfl ?_ ?_
    ·
     intro h95; have g95 := of_decide_eq_true h95; refine zA6 (zA1 ?_); refine zA rfl (zA2 (v := .nilIface) rfl) ?_; refine zA4 ?_; refine zAg ?_; refine zBl (v := .nilIface) rfl rfl ?_; exact ⟨_, rfl, rfl, dk, ha, rfl, by omega, by rw [List.take_of_length_le (by omega), zDb hf]; exact hI, hs.arr [0, 3, 2] 4 (by decide)⟩
    ·
     intro h95; have g95 := of_decide_eq_false h95; obtain ⟨dc, hcut, hcr, har2, hcc, hI4⟩ := hI.cut ha zCu hf (m := n) (by omega); refine zAf ?_; refine zA6 ?_; refine zA6 ?_; refine zAy zBv (hs.drop 2) ?_; intro w tr hK; replace hs := tr _ hs; clear tr; refine zA5 0 rfl rfl (fun w hs => zA0 (v := .pointer (some _)) rfl) hK ?_; refine zA5 1 rfl rfl (fun w hs => zA7 rfl) hK ?_; refine zA5 2 rfl rfl (fun w hs => zA3 (o' := 0) zCf rfl sz25 rfl rfl rfl) hK ?_; refine zA5 3 rfl rfl (fun w hs => zA8 uz25 rfl rfl (hs.cellAt 0 rfl rfl)) hK ?_; refine zA5 4 rfl rfl (fun w hs => zA0 (v := .pointer (some _)) rfl) hK ?_; refine zA5 5 rfl rfl (fun w hs => zA7 rfl) hK ?_
     refine zA5 6 rfl rfl (fun w hs => zA3 (o' := 5) zCf rfl sz3 rfl rfl rfl) hK ?_; refine zA5 7 rfl rfl (fun w hs => zA8 uz3 rfl rfl (hs.cellAt 0 rfl rfl)) hK ?_; refine zA9 [8] ?_; refine ⟨⟨_, rfl, ?_⟩, trivial⟩; refine zAb rfl en18 (cut_sl hM.toK (hs.arr [2, 0, 1, 3] 4 (by decide)) (by omega) mtN (m := ((n : Nat) : Int)) (inI (by omega) (by omega)) hcut) ?_; clear hs; rintro _ w ⟨rfl, hs⟩; clear hK; have hK := hs.tail; refine zA4 ⟨hK, ?_⟩; refine zA5 9 rfl rfl (fun w hs => zA2 (v := zAq ad _) rfl) hK ?_; refine zAp (by kernel_rfl) ?_; clear hK; refine zA6 (zA1 ?_); refine zA rfl (zA0 (v := zAq ad _) rfl) ?_; refine zA rfl (zAt (ad := ad) rfl) ?_; refine zA4 ?_
     refine zAx rfl (rfl) ?_; refine zAf ?_; refine zA6 ?_; have hI5 := hI4 (hs.openD).1; obtain ⟨ds, hsy, hsr, hsa, hsc, hI6⟩ := hI5.sync har2 zCu (zBu _ _ _); refine zA1 ?_; refine zA rfl (zA0 (v := .pointer (some _)) rfl) ?_; refine zA rfl (zA7 rfl) ?_; refine zA rfl (zA3 (o' := 0) zCf rfl sz25 rfl rfl rfl) ?_; refine zA rfl (zA8 uz25 rfl rfl (hs.cellAt 1 rfl rfl)) ?_; refine zAb rfl en39 (zFs hM.toK hs (by omega) mtN hsy) ?_; clear hs; rintro _ w ⟨rfl, hs⟩; refine zA rfl (zA2 (v := zAq ad _) rfl) ?_; refine zA4 ?_; refine zAg ?_; refine zBl (v := zAq ad _) rfl rfl ?_; exact ⟨_, rfl, zB6 ad, ds, hsa, hsr.trans hcr, by omega, hI6 (hs.openD).1, hs.arr [1, 3, 0] 4 (by decide)⟩
   ·
    refine zA1 ?_; refine zA rfl (zA0 (v := .slice _ _ _) rfl) ?_; refine zA rfl (zA0 (v := .pointer (some _)) rfl) ?_; refine zA rfl (zA7 rfl) ?_; refine zA rfl (zA3 (o' := 5) zCf rfl sz3 rfl rfl rfl) ?_; refine zA rfl (zA8 uz3 rfl rfl (hs.cellAt 0 rfl rfl)) ?_; refine zA rfl (zC2 zC0 sz5 rfl rfl (lo := pos) rfl (by omega)) ?_; refine zAb rfl en77 (hr.calls hM.toP hM.toW hV hs (by have h9 := (hs.rdOwn 1 rfl).subB (lo := pos) (hi := mb.length) (by omega) (Nat.le_refl _); rw [List.take_length] at h9; exact h9) (by simp) (by omega)) ?_; clear hs; rintro _ w ⟨s1, s2, rfl, hs⟩; simp only [mfP, List.cons_append, List.nil_append] at hs; refine zA rfl (zA0 (v := .tuple _) rfl) ?_
    refine zA rfl (zAa (v := .int .i64 _) rfl rfl) ?_; refine zA rfl (zAa (v := .agg _) rfl rfl) ?_; refine zA rfl (zAa (v := .int .i64 _) rfl rfl) ?_; refine zA rfl (zAa (v := .nilIface) rfl rfl) ?_; refine zBd hs rfl ze41 ?_; clear hs; intro b8 w hs
    try simp only [List.set_cons_succ, List.set_cons_zero] at hs
    refine zA rfl (zA2 (v := .int .i64 _) rfl) ?_; refine zAn hs 0 rfl rfl rfl zEq rfl rfl ?_; clear hs; intro w hs
    try simp only [List.set_cons_succ, List.set_cons_zero] at hs
    refine zA rfl (zA2 (v := .int .i64 _) rfl) ?_; refine zA rfl (zA2 (v := .nilIface) rfl) ?_; refine zA4 ?_; refine zA6 ?_; refine zA6 ?_; refine zAy zBv (hs.drop 6) ?_; intro w tr hK; replace hs := tr _ hs; clear tr; refine zA5 0 rfl rfl (fun w hs => zA0 (v := .nilIface) rfl) hK ?_; refine zA5 1 rfl rfl (fun w hs => zBf rfl) hK ?_; refine zA5 2 rfl rfl (fun w hs => zA0 (v := .bool _) rfl) hK ?_; refine zAe 3 rfl rfl rfl rfl (rfl) (fun w hs => zA0 (v := .pointer (some _)) rfl) hK ?_; refine zAe 4 rfl rfl rfl rfl (rfl) (fun w hs => zA7 rfl) hK ?_; refine zAe 5 rfl rfl rfl rfl (rfl) (fun w hs => zA3 (o' := 3) zCf rfl sz2 rfl rfl rfl) hK ?_
    refine zAe 6 rfl rfl rfl rfl (rfl) (fun w hs => zA8 uz2 rfl rfl (hs.cellAt 3 rfl rfl)) hK ?_; refine zAe 7 rfl rfl rfl rfl (rfl) (fun w hs => zBn rfl rfl) hK ?_; refine zA5 8 rfl rfl (fun w hs => zAk (v := .bool _) rfl (rfl) rfl) hK ?_; refine zA5 9 rfl rfl (fun w hs => zA0 (v := .bool _) rfl) hK ?_; refine zAe 10 rfl rfl rfl rfl (decide_eq_false (by omega)) (fun w hs => zA0 (v := .int .i64 _) rfl) hK ?_; refine zAe 11 rfl rfl rfl rfl (decide_eq_false (by omega)) (fun w hs => zA0 (v := .pointer (some _)) rfl) hK ?_; refine zAe 12 rfl rfl rfl rfl (decide_eq_false (by omega)) (fun w hs => zA7 rfl) hK ?_
    refine zAe 13 rfl rfl rfl rfl (decide_eq_false (by omega)) (fun w hs => zA3 (o' := 3) zCf rfl sz2 rfl rfl rfl) hK ?_; refine zAe 14 rfl rfl rfl rfl (decide_eq_false (by omega)) (fun w hs => zA8 uz2 rfl rfl (hs.cellAt 3 rfl rfl)) hK ?_; refine zAe 15 rfl rfl rfl rfl (decide_eq_false (by omega)) (fun w hs => zAs rfl rfl (c := ((q + 1 : Nat) : Int)) (by omega) (inI (by omega) (by omega))) hK ?_; refine zAe 16 rfl rfl rfl rfl (decide_eq_false (by omega)) (fun w hs => zDh rfl rfl) hK ?_; refine zA5 17 rfl rfl (fun w hs => zAk (v := .bool _) rfl (decide_eq_false (by omega)) rfl) hK ?_; refine zA5 18 rfl rfl (fun w hs => zA0 (v := .bool _) rfl) hK ?_
    refine zAe 19 rfl rfl rfl rfl ((by rw [decide_eq_true rfl]; rfl)) (fun w hs => zA0 (v := .pointer (some _)) rfl) hK ?_; refine zAe 20 rfl rfl rfl rfl ((by rw [decide_eq_true rfl]; rfl)) (fun w hs => zA7 rfl) hK ?_; refine zAe 21 rfl rfl rfl rfl ((by rw [decide_eq_true rfl]; rfl)) (fun w hs => zA3 (o' := 2) zCf rfl sz33 rfl rfl rfl) hK ?_; refine zAe 22 rfl rfl rfl rfl ((by rw [decide_eq_true rfl]; rfl)) (fun w hs => zA8 uz33 rfl rfl (hs.cellAt 3 rfl rfl)) hK ?_; refine zAe 23 rfl rfl rfl rfl ((by rw [decide_eq_true rfl]; rfl)) (fun w hs => zBc hs 0 rfl zEa zEq rfl) hK ?_; refine zA9 [24] ?_; refine ⟨⟨_, rfl, ?_⟩, trivial⟩; refine zAi rfl rfl ((by rw [decide_eq_true rfl]; rfl)) ?_
    refine zAb rfl en14 (zF0 hV (hs.arr [6, 0, 1, 2, 3, 4, 5] 7 (by decide)) k (x := x) (e := s1) (o := s2) (MfR.own 1 2 rfl rfl) (by have := mf_len (x := x) (by rw [(hr.fine _ _ _ rfl).1.1]); omega)) ?_; clear hs; rintro _ w ⟨eb, rfl, hs⟩; clear hK; have hK := hs.tail.tail; refine zA4 ⟨hK, ?_⟩; refine @aw_takeOn _ _ _ _ _ _ _ _ _ _ _ _ _ _ 25 _ _ _ _ _ rfl (by kernel_rfl) (by kernel_rfl) (by kernel_rfl) rfl rfl rfl (by simp) (fun w hs => zF7 (.inr hba) rfl) hK ?_; refine zA5 26 rfl rfl (fun w hs => zAk (v := .bool _) rfl ((by rw [decide_eq_true rfl]; rfl)) rfl) hK ?_; refine zAp (by kernel_rfl) ?_; clear hK; refine zBb rfl ((by simp [hba])) ?_; refine zBg rfl ?_; refine zA6 ?_
    refine zA6 ?_
    have e5 : c = cc := by omega
    subst e5
    have e6 : n = pos := by omega
    subst e6; rw [Vw.apply_ne hba] at hs; have h9 : Mem g w (lgP p d ev pv q c n :: own (.slice a18 mb.length c18) (zAm mb) :: zBz d dk :: zD1 pv V :: L) := hs.arr [5, 6, 7, 1] 8 (by decide); replace hs := h9; clear h9; refine zA1 ?_; refine zA rfl (zA0 (v := .pointer (some _)) rfl) ?_; refine zA rfl (zA7 rfl) ?_; refine zA rfl (zA3 (o' := 5) zCf rfl sz3 rfl rfl rfl) ?_; refine zA rfl (zA8 uz3 rfl rfl (hs.cellAt 0 rfl rfl)) ?_; refine zA rfl (zA0 (v := .int .i64 _) rfl) ?_; refine zA rfl (zBn rfl rfl) ?_; refine zA4 ?_; refine zB8 rfl ?_ ?_
    ·
     intro h95; have g95 := of_decide_eq_true h95; refine zA6 (zA1 ?_); refine zA rfl (zA2 (v := .nilIface) rfl) ?_; refine zA4 ?_; refine zAg ?_; refine zBl (v := .nilIface) rfl rfl ?_; exact ⟨_, rfl, rfl, dk, ha, rfl, by omega, by rw [List.take_of_length_le (by omega), zDb hf]; exact hI, hs.arr [0, 3, 2] 4 (by decide)⟩
    ·
     intro h95; have g95 := of_decide_eq_false h95; obtain ⟨dc, hcut, hcr, har2, hcc, hI4⟩ := hI.cut ha zCu hf (m := n) (by omega); refine zAf ?_; refine zA6 ?_; refine zA6 ?_; refine zAy zBv (hs.drop 2) ?_; intro w tr hK; replace hs := tr _ hs; clear tr; refine zA5 0 rfl rfl (fun w hs => zA0 (v := .pointer (some _)) rfl) hK ?_; refine zA5 1 rfl rfl (fun w hs => zA7 rfl) hK ?_; refine zA5 2 rfl rfl (fun w hs => zA3 (o' := 0) zCf rfl sz25 rfl rfl rfl) hK ?_; refine zA5 3 rfl rfl (fun w hs => zA8 uz25 rfl rfl (hs.cellAt 0 rfl rfl)) hK ?_; refine zA5 4 rfl rfl (fun w hs => zA0 (v := .pointer (some _)) rfl) hK ?_; refine zA5 5 rfl rfl (fun w hs => zA7 rfl) hK ?_
     refine zA5 6 rfl rfl (fun w hs => zA3 (o' := 5) zCf rfl sz3 rfl rfl rfl) hK ?_; refine zA5 7 rfl rfl (fun w hs => zA8 uz3 rfl rfl (hs.cellAt 0 rfl rfl)) hK ?_; refine zA9 [8] ?_; refine ⟨⟨_, rfl, ?_⟩, trivial⟩; refine zAb rfl en18 (cut_sl hM.toK (hs.arr [2, 0, 1, 3] 4 (by decide)) (by omega) mtN (m := ((n : Nat) : Int)) (inI (by omega) (by omega)) hcut) ?_; clear hs; rintro _ w ⟨rfl, hs⟩; clear hK; have hK := hs.tail; refine zA4 ⟨hK, ?_⟩; refine zA5 9 rfl rfl (fun w hs => zA2 (v := zAq ad _) rfl) hK ?_; refine zAp (by kernel_rfl) ?_; clear hK; refine zA6 (zA1 ?_); refine zA rfl (zA0 (v := zAq ad _) rfl) ?_; refine zA rfl (zAt (ad := ad) rfl) ?_; refine zA4 ?_
     refine zAx rfl (rfl) ?_; refine zAf ?_; refine zA6 ?_; have hI5 := hI4 (hs.openD).1; obtain ⟨ds, hsy, hsr, hsa, hsc, hI6⟩ := hI5.sync har2 zCu (zBu _ _ _); refine zA1 ?_; refine zA rfl (zA0 (v := .pointer (some _)) rfl) ?_; refine zA rfl (zA7 rfl) ?_; refine zA rfl (zA3 (o' := 0) zCf rfl sz25 rfl rfl rfl) ?_; refine zA rfl (zA8 uz25 rfl rfl (hs.cellAt 1 rfl rfl)) ?_; refine zAb rfl en39 (zFs hM.toK hs (by omega) mtN hsy) ?_; clear hs; rintro _ w ⟨rfl, hs⟩; refine zA rfl (zA2 (v := zAq ad _) rfl) ?_; refine zA4 ?_; refine zAg ?_; refine zBl (v := zAq ad _) rfl rfl ?_; exact ⟨_, rfl, zB6 ad, ds, hsa, hsr.trans hcr, by omega, hI6 (hs.openD).1, hs.arr [1, 3, 0] 4 (by decide)⟩
   ·
    refine zA1 ?_; refine zA rfl (zA0 (v := .slice _ _ _) rfl) ?_; refine zA rfl (zA0 (v := .pointer (some _)) rfl) ?_; refine zA rfl (zA7 rfl) ?_; refine zA rfl (zA3 (o' := 5) zCf rfl sz3 rfl rfl rfl) ?_; refine zA rfl (zA8 uz3 rfl rfl (hs.cellAt 0 rfl rfl)) ?_; refine zA rfl (zC2 zC0 sz5 rfl rfl (lo := pos) rfl (by omega)) ?_; refine zAb rfl en77 (hr.calls hM.toP hM.toW hV hs (by have h9 := (hs.rdOwn 1 rfl).subB (lo := pos) (hi := mb.length) (by omega) (Nat.le_refl _); rw [List.take_length] at h9; exact h9) (by simp) (by omega)) ?_; clear hs; rintro _ w ⟨s1, s2, rfl, hs⟩; simp only [mfP, List.cons_append, List.nil_append] at hs; refine zA rfl (zA0 (v := .tuple _) rfl) ?_
    refine zA rfl (zAa (v := .int .i64 _) rfl rfl) ?_; refine zA rfl (zAa (v := .agg _) rfl rfl) ?_; refine zA rfl (zAa (v := .int .i64 _) rfl rfl) ?_; refine zA rfl (zAa (v := .nilIface) rfl rfl) ?_; refine zBd hs rfl ze41 ?_; clear hs; intro b8 w hs
    try simp only [List.set_cons_succ, List.set_cons_zero] at hs
    refine zA rfl (zA2 (v := .int .i64 _) rfl) ?_; refine zAn hs 0 rfl rfl rfl zEq rfl rfl ?_; clear hs; intro w hs
    try simp only [List.set_cons_succ, List.set_cons_zero] at hs
    refine zA rfl (zA2 (v := .int .i64 _) rfl) ?_; refine zA rfl (zA2 (v := .nilIface) rfl) ?_; refine zA4 ?_; refine zA6 ?_; refine zA6 ?_; refine zAy zBv (hs.drop 6) ?_; intro w tr hK; replace hs := tr _ hs; clear tr; refine zA5 0 rfl rfl (fun w hs => zA0 (v := .nilIface) rfl) hK ?_; refine zA5 1 rfl rfl (fun w hs => zBf rfl) hK ?_; refine zA5 2 rfl rfl (fun w hs => zA0 (v := .bool _) rfl) hK ?_; refine zAe 3 rfl rfl rfl rfl (rfl) (fun w hs => zA0 (v := .pointer (some _)) rfl) hK ?_; refine zAe 4 rfl rfl rfl rfl (rfl) (fun w hs => zA7 rfl) hK ?_; refine zAe 5 rfl rfl rfl rfl (rfl) (fun w hs => zA3 (o' := 3) zCf rfl sz2 rfl rfl rfl) hK ?_
    refine zAe 6 rfl rfl rfl rfl (rfl) (fun w hs => zA8 uz2 rfl rfl (hs.cellAt 3 rfl rfl)) hK ?_; refine zAe 7 rfl rfl rfl rfl (rfl) (fun w hs => zBn rfl rfl) hK ?_; refine zA5 8 rfl rfl (fun w hs => zAk (v := .bool _) rfl (rfl) rfl) hK ?_; refine zA5 9 rfl rfl (fun w hs => zA0 (v := .bool _) rfl) hK ?_; refine zAe 10 rfl rfl rfl rfl (decide_eq_false (by omega)) (fun w hs => zA0 (v := .int .i64 _) rfl) hK ?_; refine zAe 11 rfl rfl rfl rfl (decide_eq_false (by omega)) (fun w hs => zA0 (v := .pointer (some _)) rfl) hK ?_; refine zAe 12 rfl rfl rfl rfl (decide_eq_false (by omega)) (fun w hs => zA7 rfl) hK ?_
    refine zAe 13 rfl rfl rfl rfl (decide_eq_false (by omega)) (fun w hs => zA3 (o' := 3) zCf rfl sz2 rfl rfl rfl) hK ?_; refine zAe 14 rfl rfl rfl rfl (decide_eq_false (by omega)) (fun w hs => zA8 uz2 rfl rfl (hs.cellAt 3 rfl rfl)) hK ?_; refine zAe 15 rfl rfl rfl rfl (decide_eq_false (by omega)) (fun w hs => zAs rfl rfl (c := ((qc + 1 : Nat) : Int)) (by omega) (inI (by omega) (by omega))) hK ?_; refine zAe 16 rfl rfl rfl rfl (decide_eq_false (by omega)) (fun w hs => zDh rfl rfl) hK ?_; refine zA5 17 rfl rfl (fun w hs => zAk (v := .bool _) rfl (decide_eq_false (by omega)) rfl) hK ?_; refine zA5 18 rfl rfl (fun w hs => zA0 (v := .bool _) rfl) hK ?_
    refine zAe 19 rfl rfl rfl rfl ((by rw [decide_eq_true rfl]; rfl)) (fun w hs => zA0 (v := .pointer (some _)) rfl) hK ?_; refine zAe 20 rfl rfl rfl rfl ((by rw [decide_eq_true rfl]; rfl)) (fun w hs => zA7 rfl) hK ?_; refine zAe 21 rfl rfl rfl rfl ((by rw [decide_eq_true rfl]; rfl)) (fun w hs => zA3 (o' := 2) zCf rfl sz33 rfl rfl rfl) hK ?_; refine zAe 22 rfl rfl rfl rfl ((by rw [decide_eq_true rfl]; rfl)) (fun w hs => zA8 uz33 rfl rfl (hs.cellAt 3 rfl rfl)) hK ?_; refine zAe 23 rfl rfl rfl rfl ((by rw [decide_eq_true rfl]; rfl)) (fun w hs => zBc hs 0 rfl zEa zEq rfl) hK ?_; refine zA9 [24] ?_; refine ⟨⟨_, rfl, ?_⟩, trivial⟩; refine zAi rfl rfl ((by rw [decide_eq_true rfl]; rfl)) ?_
    refine zAb rfl en14 (zF0 hV (hs.arr [6, 0, 1, 2, 3, 4, 5] 7 (by decide)) k (x := x) (e := s1) (o := s2) (MfR.own 1 2 rfl rfl) (by have := mf_len (x := x) (by rw [(hr.fine _ _ _ rfl).1.1]); omega)) ?_; clear hs; rintro _ w ⟨eb, rfl, hs⟩; rw [hap] at hs ⊢; replace hs := hs.tail; clear hK; have hK := hs.tail; refine zA4 ⟨hK, ?_⟩; refine zAe 25 rfl rfl rfl rfl ((by rw [decide_eq_true rfl]; rfl)) (fun w hs => zAt (ad := ad) rfl) hK ?_; refine zA5 26 rfl rfl (fun w hs => zAk (v := .bool _) rfl ((by rw [decide_eq_true rfl]; rfl)) rfl) hK ?_; refine zAp (by kernel_rfl) ?_; clear hK; refine zAx rfl (rfl) ?_; refine zAf ?_; refine zAy zBv (hs.drop 4) ?_; intro w tr hK; replace hs := tr _ hs
    clear tr; refine zA5 0 rfl rfl (fun w hs => zA0 (v := .pointer (some _)) rfl) hK ?_; refine zA5 1 rfl rfl (fun w hs => zA0 (v := .pointer (some _)) rfl) hK ?_; refine zA5 2 rfl rfl (fun w hs => zA0 (v := .pointer (some _)) rfl) hK ?_; refine zA5 3 rfl rfl (fun w hs => zA0 (v := .int .i64 _) rfl) hK ?_; refine zA5 4 rfl rfl (fun w hs => zA0 (v := .pointer (some _)) rfl) hK ?_; refine zA5 5 rfl rfl (fun w hs => zA7 rfl) hK ?_; refine zA5 6 rfl rfl (fun w hs => zA3 (o' := 4) zCf rfl sz3 rfl rfl rfl) hK ?_; refine zA5 9 rfl rfl (fun w hs => zA0 (v := .pointer (some _)) rfl) hK ?_; refine zA5 10 rfl rfl (fun w hs => zA7 rfl) hK ?_
    refine zA5 11 rfl rfl (fun w hs => zA3 (o' := 5) zCf rfl sz3 rfl rfl rfl) hK ?_; refine zA5 13 rfl rfl (fun w hs => zA0 (v := .int .i64 _) rfl) hK ?_; refine zA9 [7, 12] ?_; refine ⟨⟨_, rfl, ?_⟩, ⟨_, rfl, ?_⟩, trivial⟩
    ·
     refine zA rfl (zA8 uz3 rfl rfl (hs.cellAt 4 rfl rfl)) ?_; clear hK; have hK := hs.drop 4; refine zA4 ⟨hK, ?_⟩; refine zA5 8 rfl rfl (fun w hs => zAs rfl rfl (c := ((cc + 1 : Nat) : Int)) (by omega) (inI (by omega) (by omega))) hK ?_; refine zA9 [12] ?_; refine ⟨⟨_, rfl, ?_⟩, trivial⟩; refine zA rfl (zA8 uz3 rfl rfl (hs.cellAt 4 rfl rfl)) ?_; clear hK; have hK := hs.drop 4; refine zA4 ⟨hK, ?_⟩; refine zA5 14 rfl rfl (fun w hs => zAs rfl rfl (c := ((pos + z : Nat) : Int)) (by omega) (inI (by omega) (by omega))) hK ?_; refine zA5 15 rfl rfl (fun w hs => zA7 rfl) hK ?_; refine zA5 16 rfl rfl (fun w hs => zA3 (o' := 3) zCf rfl sz2 rfl rfl rfl) hK ?_; refine zA9 [17] ?_
     refine ⟨⟨_, rfl, ?_⟩, trivial⟩; refine zAr (v := .int .i64 _) hs 4 rfl sz2 rfl rfl rfl rfl ?_; clear hs; intro w hs
     try simp only [List.set_cons_succ, List.set_cons_zero] at hs
     clear hK; have hK := hs.drop 4; refine zA4 ⟨hK, ?_⟩; refine zA5 18 rfl rfl (fun w hs => zA7 rfl) hK ?_; refine zA5 19 rfl rfl (fun w hs => zA3 (o' := 4) zCf rfl sz3 rfl rfl rfl) hK ?_; refine zA9 [20] ?_; refine ⟨⟨_, rfl, ?_⟩, trivial⟩; refine zAr (v := .int .i64 _) hs 4 rfl sz3 rfl rfl rfl rfl ?_; clear hs; intro w hs
     try simp only [List.set_cons_succ, List.set_cons_zero] at hs
     clear hK; have hK := hs.drop 4; refine zA4 ⟨hK, ?_⟩; refine zA5 21 rfl rfl (fun w hs => zA7 rfl) hK ?_; refine zA5 22 rfl rfl (fun w hs => zA3 (o' := 5) zCf rfl sz3 rfl rfl rfl) hK ?_; refine zA9 [23] ?_; refine ⟨⟨_, rfl, ?_⟩, trivial⟩; refine zAr (v := .int .i64 _) hs 4 rfl sz3 rfl rfl rfl rfl ?_; clear hs; intro w hs
     try simp only [List.set_cons_succ, List.set_cons_zero] at hs
     clear hK; have hK := hs.drop 4; refine zA4 ⟨hK, ?_⟩; refine zAp (by kernel_rfl) ?_; clear hK; have hz := hr.fine _ _ _ rfl
     have hzl : z ≤ mb.length - pos := by have := hz.2.2.1; rw [List.length_drop] at this; exact this
     exact ⟨((W.apply k x).2, qc + 1, cc + 1, pos + z), by simp only; omega, ⟨⟨by simp only; omega, c2, n2, by simp only; rw [← List.drop_drop]; exact hE2, by simp only; omega, by simp only; omega⟩, hs.arr [4, 5, 6, 0] 7 (by decide)⟩, trivial, by repeat (first | exact Out.mix _ _ _ | refine Out.updo rfl ?_ | refine Out.upd rfl ?_ | refine Out.mixIn rfl ?_)⟩
    ·
     refine zA rfl (zA8 uz3 rfl rfl (hs.cellAt 4 rfl rfl)) ?_; clear hK; have hK := hs.drop 4; refine zA4 ⟨hK, ?_⟩; refine zA5 14 rfl rfl (fun w hs => zAs rfl rfl (c := ((pos + z : Nat) : Int)) (by omega) (inI (by omega) (by omega))) hK ?_; refine zA9 [7] ?_; refine ⟨⟨_, rfl, ?_⟩, trivial⟩; refine zA rfl (zA8 uz3 rfl rfl (hs.cellAt 4 rfl rfl)) ?_; clear hK; have hK := hs.drop 4; refine zA4 ⟨hK, ?_⟩; refine zA5 8 rfl rfl (fun w hs => zAs rfl rfl (c := ((cc + 1 : Nat) : Int)) (by omega) (inI (by omega) (by omega))) hK ?_; refine zA5 15 rfl rfl (fun w hs => zA7 rfl) hK ?_; refine zA5 16 rfl rfl (fun w hs => zA3 (o' := 3) zCf rfl sz2 rfl rfl rfl) hK ?_; refine zA9 [17] ?_
     refine ⟨⟨_, rfl, ?_⟩, trivial⟩; refine zAr (v := .int .i64 _) hs 4 rfl sz2 rfl rfl rfl rfl ?_; clear hs; intro w hs
     try simp only [List.set_cons_succ, List.set_cons_zero] at hs
     clear hK; have hK := hs.drop 4; refine zA4 ⟨hK, ?_⟩; refine zA5 18 rfl rfl (fun w hs => zA7 rfl) hK ?_; refine zA5 19 rfl rfl (fun w hs => zA3 (o' := 4) zCf rfl sz3 rfl rfl rfl) hK ?_; refine zA9 [20] ?_; refine ⟨⟨_, rfl, ?_⟩, trivial⟩; refine zAr (v := .int .i64 _) hs 4 rfl sz3 rfl rfl rfl rfl ?_; clear hs; intro w hs
     try simp only [List.set_cons_succ, List.set_cons_zero] at hs
     clear hK; have hK := hs.drop 4; refine zA4 ⟨hK, ?_⟩; refine zA5 21 rfl rfl (fun w hs => zA7 rfl) hK ?_; refine zA5 22 rfl rfl (fun w hs => zA3 (o' := 5) zCf rfl sz3 rfl rfl rfl) hK ?_; refine zA9 [23] ?_; refine ⟨⟨_, rfl, ?_⟩, trivial⟩; refine zAr (v := .int .i64 _) hs 4 rfl sz3 rfl rfl rfl rfl ?_; clear hs; intro w hs
     try simp only [List.set_cons_succ, List.set_cons_zero] at hs
     clear hK; have hK := hs.drop 4; refine zA4 ⟨hK, ?_⟩; refine zAp (by kernel_rfl) ?_; clear hK; have hz := hr.fine _ _ _ rfl
     have hzl : z ≤ mb.length - pos := by have := hz.2.2.1; rw [List.length_drop] at this; exact this
     exact ⟨((W.apply k x).2, qc + 1, cc + 1, pos + z), by simp only; omega, ⟨⟨by simp only; omega, c2, n2, by simp only; rw [← List.drop_drop]; exact hE2, by simp only; omega, by simp only; omega⟩, hs.arr [4, 5, 6, 0] 7 (by decide)⟩, trivial, by repeat (first | exact Out.mix _ _ _ | refine Out.updo rfl ?_ | refine Out.upd rfl ?_ | refine Out.mixIn rfl ?_)⟩
  ·
   intro h29; have g29 := of_decide_eq_false h29; refine zBg rfl ?_; refine zA6 ?_; refine zA6 ?_; have hdn : mb.drop pos = [] := List.drop_eq_nil_iff.2 (by omega); rw [hdn] at hE; obtain ⟨e1, e2, e3, e4⟩ := hE.of_nil; subst e1; subst e2; subst e3; subst e4
   have e5 : c = cc := by omega
   subst e5
   have e6 : n = pos := by omega
   subst e6; refine zA1 ?_; refine zA rfl (zA0 (v := .pointer (some _)) rfl) ?_; refine zA rfl (zA7 rfl) ?_; refine zA rfl (zA3 (o' := 5) zCf rfl sz3 rfl rfl rfl) ?_; refine zA rfl (zA8 uz3 rfl rfl (hs.cellAt 0 rfl rfl)) ?_; refine zA rfl (zA0 (v := .int .i64 _) rfl) ?_; refine zA rfl (zBn rfl rfl) ?_; refine zA4 ?_; refine zB8 rfl ?_ ?_
   ·
    intro h95; have g95 := of_decide_eq_true h95; refine zA6 (zA1 ?_); refine zA rfl (zA2 (v := .nilIface) rfl) ?_; refine zA4 ?_; refine zAg ?_; refine zBl (v := .nilIface) rfl rfl ?_; exact ⟨_, rfl, rfl, dk, ha, rfl, by omega, by rw [List.take_of_length_le (by omega), zDb hf]; exact hI, hs.arr [0, 3, 2] 4 (by decide)⟩
   ·
    intro h95; have g95 := of_decide_eq_false h95; obtain ⟨dc, hcut, hcr, har2, hcc, hI4⟩ := hI.cut ha zCu hf (m := n) (by omega); refine zAf ?_; refine zA6 ?_; refine zA6 ?_; refine zAy zBv (hs.drop 2) ?_; intro w tr hK; replace hs := tr _ hs; clear tr; refine zA5 0 rfl rfl (fun w hs => zA0 (v := .pointer (some _)) rfl) hK ?_; refine zA5 1 rfl rfl (fun w hs => zA7 rfl) hK ?_; refine zA5 2 rfl rfl (fun w hs => zA3 (o' := 0) zCf rfl sz25 rfl rfl rfl) hK ?_; refine zA5 3 rfl rfl (fun w hs => zA8 uz25 rfl rfl (hs.cellAt 0 rfl rfl)) hK ?_; refine zA5 4 rfl rfl (fun w hs => zA0 (v := .pointer (some _)) rfl) hK ?_; refine zA5 5 rfl rfl (fun w hs => zA7 rfl) hK ?_
    refine zA5 6 rfl rfl (fun w hs => zA3 (o' := 5) zCf rfl sz3 rfl rfl rfl) hK ?_; refine zA5 7 rfl rfl (fun w hs => zA8 uz3 rfl rfl (hs.cellAt 0 rfl rfl)) hK ?_; refine zA9 [8] ?_; refine ⟨⟨_, rfl, ?_⟩, trivial⟩; refine zAb rfl en18 (cut_sl hM.toK (hs.arr [2, 0, 1, 3] 4 (by decide)) (by omega) mtN (m := ((n : Nat) : Int)) (inI (by omega) (by omega)) hcut) ?_; clear hs; rintro _ w ⟨rfl, hs⟩; clear hK; have hK := hs.tail; refine zA4 ⟨hK, ?_⟩; refine zA5 9 rfl rfl (fun w hs => zA2 (v := zAq ad _) rfl) hK ?_; refine zAp (by kernel_rfl) ?_; clear hK; refine zA6 (zA1 ?_); refine zA rfl (zA0 (v := zAq ad _) rfl) ?_; refine zA rfl (zAt (ad := ad) rfl) ?_; refine zA4 ?_; refine zAx rfl (rfl) ?_
    refine zAf ?_; refine zA6 ?_; have hI5 := hI4 (hs.openD).1; obtain ⟨ds, hsy, hsr, hsa, hsc, hI6⟩ := hI5.sync har2 zCu (zBu _ _ _); refine zA1 ?_; refine zA rfl (zA0 (v := .pointer (some _)) rfl) ?_; refine zA rfl (zA7 rfl) ?_; refine zA rfl (zA3 (o' := 0) zCf rfl sz25 rfl rfl rfl) ?_; refine zA rfl (zA8 uz25 rfl rfl (hs.cellAt 1 rfl rfl)) ?_; refine zAb rfl en39 (zFs hM.toK hs (by omega) mtN hsy) ?_; clear hs; rintro _ w ⟨rfl, hs⟩; refine zA rfl (zA2 (v := zAq ad _) rfl) ?_; refine zA4 ?_; refine zAg ?_; refine zBl (v := zAq ad _) rfl rfl ?_; exact ⟨_, rfl, zB6 ad, ds, hsa, hsr.trans hcr, by omega, hI6 (hs.openD).1, hs.arr [1, 3, 0] 4 (by decide)⟩
set_option maxHeartbeats 1000000 in
theorem openB_sl (hM : ErrM ad g) (hs : Mem g w (zBz d dk :: L)) (hI : LgU f dk) (ha : dk.armed = 0) (hcl : dk.calls < 800000) (hev : 1 ≤ ev ∧ ev ≤ 4096) (hfn : f snN = none) (hfm : f mtN = some mb) (hml : mb.length ≤ 1000000) (hent : Ent [] 0 mb V q c n) (hq : q < 4611686018427387904) :
    Calls Tryz.prog 10 #[.pointer (some ⟨d, 0, none⟩), .int .i64 (ev : Nat)] w (Ret fun v w' => ∃ p dk2, v = .tuple #[.pointer (some ⟨p, 0, none⟩), .nilIface] ∧ dk2.armed = 0 ∧ dk2.room = dk.room ∧ dk2.calls ≤ dk.calls + 4 ∧ LgU (zDq f mtN (mb.take n)) dk2 ∧ Mem g w' (LogC p d ev V q c n :: zBz d dk2 :: L)) := by
  have hK := hM.toK; have hle := hent.le; have hll := hI.lenR zCu; refine zAo Tryz.func10 rfl rfl ?_
  skip
  refine zA6 (zA1 ?_); refine zA rfl (zA2 (v := .pointer none) rfl) ?_; refine zA rfl (zA2 (v := .nilIface) rfl) ?_; refine zA4 ?_; refine zA6 ?_; refine zA6 (zA1 ?_); refine zA rfl (zA0 (v := .int .i64 _) rfl) ?_; refine zA rfl (zB7 rfl rfl) ?_; refine zA rfl (zA0 (v := .bool _) rfl) ?_; refine zAi rfl rfl (decide_eq_false (by omega)) ?_; refine zA rfl (zA0 (v := .int .i64 _) rfl) ?_; refine zAi rfl rfl (decide_eq_false (by omega)) ?_; refine zA rfl (zBi rfl rfl) ?_; refine zA rfl (zAk (v := .bool _) rfl (decide_eq_false (by omega)) rfl) ?_; refine zA4 ?_; refine zAx rfl (decide_eq_false (by omega)) ?_; refine zAf ?_; refine zA6 (zA1 ?_); refine zA rfl (zA0 (v := .pointer (some _)) rfl) ?_
  refine zA rfl (zA0 (v := .int .i64 _) rfl) ?_; refine zAb rfl en11 (newq_sl hs) ?_; clear hs; rintro _ w ⟨pv, rfl, hs⟩; refine zA rfl (zC3 (cs := [.pointer (some ⟨d, 0, none⟩), .int .i64 (ev : Nat), .pointer (some ⟨pv, 0, none⟩), .int .i64 ((0 : Nat) : Int), .int .i64 ((0 : Nat) : Int), .int .i64 ((0 : Nat) : Int)]) zCf ze74 pl74 rfl) ?_; refine zCj (v := .agg _) hs rfl rfl ?_; clear hs; intro b21 w hs
  try simp only [List.set_cons_succ, List.set_cons_zero] at hs
  refine zA rfl (zA2 (v := .pointer (some _)) rfl) ?_; refine zA4 ?_; replace hs : Mem g w (lgP b21 d ev pv 0 0 0 :: zD1 pv [] :: zBz d dk :: L) := hs; refine zA6 ?_; refine zA6 (zA1 ?_); refine zA rfl (zA0 (v := .pointer (some _)) rfl) ?_; refine zAb rfl en33 (snapNo_sl hM hs (hI.pread_none mem_sn hfn)) ?_; clear hs; rintro _ w ⟨rfl, hs⟩; refine zA rfl (zA2 (v := .nilIface) rfl) ?_; refine zA4 (zA6 (zA1 ?_)); refine zA rfl (zA0 (v := .nilIface) rfl) ?_; refine zA rfl (zBf rfl) ?_; refine zA4 ?_; refine zAx rfl (rfl) ?_; refine zAf ?_; refine zA6 ?_
  replace hll : dk.lenR mtN = (0, mb.length) := by rw [hll, hfm]; rfl
  refine zA1 ?_; refine zA rfl (zA0 (v := .pointer (some _)) rfl) ?_; refine zAb rfl en15 (len_sl hM.toK (hs.arr [2, 0, 1] 3 (by decide)) mtN hll) ?_; clear hs; rintro _ w ⟨rfl, hs⟩; refine zA rfl (zA0 (v := .tuple _) rfl) ?_; refine zA rfl (zAa (v := .int .i64 _) rfl rfl) ?_; refine zA rfl (zAa (v := zAq ad _) rfl rfl) ?_; refine zA rfl (zA2 (v := .int .i64 _) rfl) ?_; refine zA rfl (zA2 (v := zAq ad _) rfl) ?_; refine zA4 ?_; refine zA6 ?_; refine zA6 (zA1 ?_); refine zA rfl (zA0 (v := zAq ad _) rfl) ?_; refine zA rfl (zA8 zCq rfl rfl (hK.cellW hs 107 (by decide) rfl)) ?_; refine zA rfl (zEk (hK.atW hs) (by decide) (by decide) rfl rfl) ?_; refine zA4 ?_; refine zAx rfl (rfl) ?_
  refine zAf ?_; refine zA6 ?_; refine zA6 (zA1 ?_); refine zA rfl (zA0 (v := zAq ad _) rfl) ?_; refine zA rfl (zAt (ad := ad) rfl) ?_; refine zA4 ?_; refine zAx rfl (rfl) ?_; refine zAf ?_; refine zA6 ?_; refine zA6 (zA1 ?_); refine zA rfl (zA0 (v := .pointer (some _)) rfl) ?_; refine zA rfl (zA0 (v := .int .i64 _) rfl) ?_; refine zAb rfl en36 (entriesU_sl hM hI ha (by omega) hfm hml hent hq (hs.arr [1, 2, 0] 3 (by decide))) ?_; clear hs; rintro _ w ⟨rfl, d2, h1, h2, h3, h4, hs⟩; refine zA rfl (zA2 (v := .nilIface) rfl) ?_; refine zA4 (zA6 (zA1 ?_)); refine zA rfl (zA0 (v := .nilIface) rfl) ?_; refine zA rfl (zBf rfl) ?_; refine zA4 ?_; refine zAx rfl (rfl) ?_; refine zAf ?_
  refine zA6 (zA1 ?_); refine zA rfl (zA0 (v := .pointer (some _)) rfl) ?_; refine zA rfl (zA2 (v := .pointer (some _)) rfl) ?_; refine zA rfl (zA2 (v := .nilIface) rfl) ?_; refine zA4 ?_; refine zAg ?_; refine res2 (v := .pointer (some _)) (v2 := .nilIface) rfl rfl rfl ?_; exact ⟨_, rfl, _, d2, rfl, h1, h2, by omega, h4, hs.closeL⟩
end Go.Proofs.YtdkgdjnbpjjfmaaGreatDoor
