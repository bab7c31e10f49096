/- UpRefuses. -/
import Derived.Test.YthejaanobeonnaaGreatDoorRf7
set_option linter.all false
namespace Go.Proofs.YthejaanobeonnaaGreatDoor
section
open Go.RowKit
attribute [local irreducible] zAh eV
variable {g w : World} {L M : List HP} {ad : Nat → Addr}
theorem Errs.aU2 (h : ErrA ad g) : ErrU ad g := Errs.sub h (fun c hc => by simp only [allCodes, upCodes, List.mem_cons, List.not_mem_nil, or_false] at *; omega)
theorem pp_at {pp : Option Addr} {n : Nat} (h : pp = none ↔ n ≠ 0) : (!pp.isNone == !decide (((n : Nat) : Int) = 0)) = false := by
  cases pp with
  | none =>
    have hn : ¬ ((n : Nat) : Int) = 0 := by have := h.1 rfl; omega
    rw [decide_eq_false hn]
    rfl
  | some p =>
    have hn : ((n : Nat) : Int) = 0 := by
      by_cases h0 : n = 0
      · omega
      · exact absurd (h.2 h0) (by simp)
    rw [decide_eq_true hn]
    rfl
theorem refW_1a {g0 g1 : Nat} (h : g1 ≠ 0) : refW g0 g1 1 = (g1, some 1) := by simp [refW, h]
theorem refW_1b {g0 g1 : Nat} (h : g1 = 0) : refW g0 g1 1 = refW g0 g1 0 := by simp [refW, h]
theorem refW_2a {g0 g1 : Nat} (h : g0 ≠ 0) : refW g0 g1 2 = (g0, some 0) := by simp [refW, h]
theorem refW_2b {g0 g1 : Nat} (h : g0 = 0) : refW g0 g1 2 = refW g0 g1 1 := by simp [refW, h]
theorem rG_a {e : Nat} {o : Ob} {b : List UInt8} (h : obCk o b ≠ 0) : rG e o b = obCk o b := by rw [rG, if_pos h]
theorem rG_b {e : Nat} {o : Ob} {b : List UInt8} (h : obCk o b = 0) (h2 : 256 < zB2 b.length e) : rG e o b = 104 := by rw [rG, if_neg (by rw [h]; exact fun h => h rfl), if_pos h2]
theorem rG_c {e : Nat} {o : Ob} {b : List UInt8} (h : obCk o b = 0) (h2 : ¬ 256 < zB2 b.length e) : rG e o b = 0 := by rw [rG, if_neg (by rw [h]; exact fun h => h rfl), if_neg h2]
theorem refCk_sl (hs : Mem g w L) {o : Ob} {a : Option Addr} {c : Nat} {b : List UInt8} (hr : Rd g L (.slice a b.length c) (zAm b)) (hl : b.length ≤ 1048576) : Calls Tryz.prog 25 #[.agg (obL o).toArray, .slice a b.length c] w (Ret fun v w' => v = .int .i64 (obCk o b : Nat) ∧ Mem g w' L) := by
  refine zAf Tryz.func25 rfl rfl ?_
  skip
  refine zA3 (zA1 ?_); refine zBh (v := .agg _) hs rfl rfl ?_; clear hs; intro b2 w hs
  try simp only [zzs, zzz] at hs
  refine zA rfl (zA0 (v := .int .i64 _) rfl) ?_; refine zA6 ?_; refine zA3 ?_; refine zA3 (zA1 ?_); refine zA rfl (zA2 (v := .slice _ _ _) rfl) ?_; refine zA rfl (zAt zCk rfl) ?_; refine zA rfl (zA4 (o' := 1) uz66 rfl sz3 rfl rfl rfl) ?_; refine zA rfl (zA7 uz3 rfl rfl (hs.cellAt 0 rfl rfl)) ?_; refine zA rfl (zCf rfl rfl) ?_; refine zA6 ?_; refine zB rfl ?_ ?_
  ·
   intro h9; have g9 := zEt h9; refine zA3 (zA1 ?_); refine zA rfl (zA0 (v := .int .i64 _) rfl) ?_; refine zA6 ?_; refine zAc ?_; refine zBd (v := .int .i64 _) rfl rfl ?_; exact ⟨_, rfl, by rw [obCk, if_pos (by omega)]; rfl, hs.tail⟩
  ·
   intro h9; have g9 := zEs h9; refine zAd ?_; refine zA3 ?_; refine zA3 ?_; refine zAp zBk hs ?_; intro w tr hK; replace hs := tr _ hs; clear tr; refine zA5 0 rfl rfl (fun w hs => zA2 (v := .slice _ _ _) rfl) hK ?_; refine zA5 2 rfl rfl (fun w hs => zA4 (o' := 2) uz66 rfl sz64 rfl rfl rfl) hK ?_; refine zA5 3 rfl rfl (fun w hs => zA7 uz64 rfl rfl (hs.cellAt 0 rfl rfl)) hK ?_; refine zAe [1] ?_; refine ⟨⟨_, rfl, ?_⟩, trivial⟩; refine zAb rfl en44 (hs.callsE (refSum_any (w := w) (b := .slice a b.length c) (l := b) ((hr.cons).seq hs) (by omega))) ?_; clear hs; rintro _ w ⟨rfl, hs⟩; clear hK; have hK := hs; refine zA6 ⟨hK, ?_⟩; refine zA5 4 rfl rfl (fun w hs => zCf rfl rfl) hK ?_
   refine zAr (by kernel_rfl) ?_; clear hK; refine zB rfl ?_ ?_
   ·
    intro h14; have g14 := zEt h14; refine zA3 (zA1 ?_); refine zA rfl (zA0 (v := .int .i64 _) rfl) ?_; refine zA6 ?_; refine zAc ?_; refine zBd (v := .int .i64 _) rfl rfl ?_; exact ⟨_, rfl, by rw [obCk, if_neg (by omega), if_pos (by omega)]; rfl, hs.tail⟩
   ·
    intro h14; have g14 := zEs h14; refine zAd ?_; refine zA3 (zA1 ?_); refine zA rfl (zA0 (v := .int .i64 _) rfl) ?_; refine zA6 ?_; refine zAc ?_; refine zBd (v := .int .i64 _) rfl rfl ?_; exact ⟨_, rfl, by rw [obCk, if_neg (by omega), if_neg (by omega)]; rfl, hs.tail⟩
def fltL (f : Flt) : List Value := [.int .i64 (f.1 : Nat), .bool f.2.isSome, .int .i64 (f.2.getD 0 : Nat)]
set_option maxRecDepth 100000 in
set_option maxHeartbeats 4000000 in
theorem upRefuses_sl (hA : ErrA ad g) (hs : Mem g w []) {a0 b : Option Addr} {n k c d : Nat} {dx dy : List UInt8} {ea : Int} (hea : zDi ea) (hx : Came g (.slice a0 n c) (zAm dx)) (hy : Came g (.slice b k d) (zAm dy)) (hn : n = dx.length) (hk : k = dy.length) {m : Mf} {e o : SA} (h1 : zGa g 2 (.slice e.1 m.eps.length e.2) (m.eps.map prL)) (h2 : zGa g 3 (.slice o.1 m.obs.length o.2) (m.obs.map obL)) :
    Calls Tryz.prog 4 #[.slice a0 n c, .slice b k d, .agg (mfL m e o).toArray, .int .i64 ea] w (Ret fun v w' => v = .bool true ∧ Mem g w' []) := by
  subst hn hk; obtain ⟨oa, oc⟩ := o; have hE := hA.aU2
  have hm : ∀ L, MfR g L m e (oa, oc) := fun L => ⟨h1.rd L, h2.rd L⟩
  refine zAf Tryz.func4 rfl rfl ?_
  skip
  refine zA3 (zA1 ?_); refine zBh (v := .agg _) hs rfl rfl ?_; clear hs; intro b6 w hs
  try simp only [zzs, zzz] at hs
  refine zA rfl (zA0 (v := .bool _) rfl) ?_; refine zA6 (zA3 (zA1 ?_)); refine zAb rfl en8 (first21_sl hE hs) ?_; clear hs; rintro _ w ⟨rfl, hs⟩; refine zA rfl (zA0 (v := .bool _) rfl) ?_; refine zA6 ?_; refine zA3 ?_; refine zA3 (zA1 ?_); refine zA rfl (zA2 (v := .bool _) rfl) ?_; refine zA rfl (zBt rfl) ?_; refine zA6 ?_; refine zB4 rfl (zBj (rfl)) ?_; refine zAd ?_; refine zA3 ?_; refine zA3 (zA1 ?_); refine zA rfl (zA2 (v := .slice _ _ _) rfl) ?_; refine zA rfl (zAt zCk rfl) ?_; refine zA rfl (zBl rfl rfl) ?_; refine zA rfl (zA2 (v := .bool _) rfl) ?_; refine zB0 (t := _) (d := 28) rfl ?_ ?_
  ·
   intro h27; have g27 := of_decide_eq_true h27; refine zA9 rfl rfl rfl h27 ?_; refine zA9 rfl rfl rfl h27 ?_; refine zA9 rfl rfl rfl h27 ?_; refine zA rfl (zAk (v := .bool _) rfl h27 rfl) ?_; refine zA rfl (zA2 (v := .bool _) rfl) ?_; refine zA9 rfl rfl rfl rfl ?_; refine zA9 rfl rfl rfl rfl ?_; refine zA9 rfl rfl rfl rfl ?_; refine zA rfl (zAk (v := .bool _) rfl rfl rfl) ?_; refine zA rfl (zA2 (v := .bool _) rfl) ?_; refine zA9 rfl rfl rfl rfl ?_; refine zA9 rfl rfl rfl rfl ?_; refine zA rfl (zAk (v := .bool _) rfl rfl rfl) ?_; refine zA6 ?_; refine zB6 rfl rfl ?_; refine zA3 (zA1 ?_); refine zA rfl (zA2 (v := .bool _) rfl) ?_; refine zA rfl (zA0 (v := .bool _) rfl) ?_; refine zA6 ?_
   refine zAc ?_; refine zBd (v := .bool _) rfl rfl ?_; exact ⟨_, rfl, rfl, hs.nil⟩
  ·
   intro h27; have g27 := of_decide_eq_false h27; refine zAi rfl rfl h27 ?_; refine zA rfl (zA2 (v := .slice _ _ _) rfl) ?_; refine zAi rfl rfl h27 ?_; refine zA rfl (zAt zCk rfl) ?_; refine zAi rfl rfl h27 ?_; refine zA rfl (zBl rfl rfl) ?_; refine zA rfl (zAg (v := .bool _) rfl h27 rfl) ?_; refine zA rfl (zA2 (v := .bool _) rfl) ?_; refine zB0 (t := _) (d := 33) rfl ?_ ?_
   ·
    intro h31; have g31 := of_decide_eq_true h31; refine zA9 rfl rfl rfl h31 ?_; refine zA9 rfl rfl rfl h31 ?_; refine zA9 rfl rfl rfl h31 ?_; refine zA rfl (zAk (v := .bool _) rfl h31 rfl) ?_; refine zA rfl (zA2 (v := .bool _) rfl) ?_; refine zA9 rfl rfl rfl rfl ?_; refine zA9 rfl rfl rfl rfl ?_; refine zA rfl (zAk (v := .bool _) rfl rfl rfl) ?_; refine zA6 ?_; refine zB6 rfl rfl ?_; refine zA3 (zA1 ?_); refine zA rfl (zA2 (v := .bool _) rfl) ?_; refine zA rfl (zA0 (v := .bool _) rfl) ?_; refine zA6 ?_; refine zAc ?_; refine zBd (v := .bool _) rfl rfl ?_; exact ⟨_, rfl, rfl, hs.nil⟩
   ·
    intro h31; have g31 := of_decide_eq_false h31; refine zAi rfl rfl h31 ?_; refine zA rfl (zBy hs 0 (mfL m e (oa, oc)) rfl zCb zF2 rfl rfl) ?_; refine zAi rfl rfl h31 ?_; refine zAb rfl en21 (wmani_sl hs (hm _)) ?_; clear hs; rintro _ w ⟨bm, rfl, hb12, hs⟩; refine zAi rfl rfl h31 ?_; refine zA rfl (zBt rfl) ?_; refine zA rfl (zAg (v := .bool _) rfl h31 rfl) ?_; refine zA rfl (zA2 (v := .bool _) rfl) ?_; refine zB0 (t := _) (d := 38) rfl ?_ ?_
    ·
     intro h35; replace h35 := zEu h35; refine zA9 rfl rfl rfl (zCd h35) ?_; refine zA9 rfl rfl rfl (zCd h35) ?_; refine zA rfl (zAk (v := .bool _) rfl (zCd h35) rfl) ?_; refine zA6 ?_; refine zB6 rfl rfl ?_; refine zA3 (zA1 ?_); refine zA rfl (zA2 (v := .bool _) rfl) ?_; refine zA rfl (zA0 (v := .bool _) rfl) ?_; refine zA6 ?_; refine zAc ?_; refine zBd (v := .bool _) rfl rfl ?_; exact ⟨_, rfl, rfl, hs.nil⟩
    ·
     intro h35; replace h35 := zE0 h35; have hob12 := hb12 h35; refine zAi rfl rfl (zBj h35) ?_; refine zA rfl (zA2 (v := .bool _) rfl) ?_; refine zAi rfl rfl (zBj h35) ?_; refine zA rfl (zBt rfl) ?_; refine zA rfl (zAg (v := .bool _) rfl (zBj h35) rfl) ?_; refine zA6 ?_; refine zB4 rfl (zBj (rfl)) ?_; refine zAd ?_; refine zA3 (zA1 ?_); refine zAb rfl en10 (newd_sl hs (r := 65536) (by decide) (by decide)) ?_; clear hs; rintro _ w ⟨d0, rfl, hs⟩; refine zA rfl (zA2 (v := .tuple _) rfl) ?_; refine zA rfl (zAa (v := .pointer (some _)) rfl rfl) ?_; refine zA rfl (zAa (v := .nilIface) rfl rfl) ?_; refine zA rfl (zA0 (v := .pointer (some _)) rfl) ?_; refine zA rfl (zA0 (v := .nilIface) rfl) ?_
     refine zA6 ?_; refine zA3 ?_; refine zA3 (zA1 ?_); refine zA rfl (zA2 (v := .pointer (some _)) rfl) ?_; refine zA rfl (zD9 uz25 rfl rfl) ?_; refine zA rfl (zA2 (v := .bool _) rfl) ?_; refine zAi rfl rfl (rfl) ?_; refine zA rfl (zA2 (v := .nilIface) rfl) ?_; refine zAi rfl rfl (rfl) ?_; refine zA rfl (zCg rfl) ?_; refine zA rfl (zAg (v := .bool _) rfl (rfl) rfl) ?_; refine zA6 ?_; refine zB4 rfl (rfl) ?_; refine zAd ?_; refine zA3 (zA1 ?_); refine zAb rfl en11 (new_sl hs) ?_; clear hs; rintro _ w ⟨sp, rfl, hs⟩; refine zA rfl (zA0 (v := .pointer (some _)) rfl) ?_; refine zA6 (zA3 (zA1 ?_)); refine zA rfl (zA2 (v := .pointer (some _)) rfl) ?_
     refine zA rfl (zA2 (v := .pointer (some _)) rfl) ?_; refine zAb rfl en12 (opened_sl hE.uM hE.uG (hs.arr [1, 0, 2] 3 (by decide)) (N := UpN) (B := 9000) (RawI.start (by decide)) up_mt up_sn rfl (by decide) rfl rfl (tr := 1) (by decide)) ?_; clear hs; rintro _ w ⟨l, c0, dk2, rfl, k1, k2, k3, k4, hs⟩; refine zA rfl (zA2 (v := .tuple _) rfl) ?_; refine zA rfl (zAa (v := .pointer (some _)) rfl rfl) ?_; refine zA rfl (zAa (v := .pointer (some _)) rfl rfl) ?_; refine zA rfl (zA0 (v := .pointer (some _)) rfl) ?_; refine zA rfl (zA0 (v := .pointer (some _)) rfl) ?_; refine zA6 ?_; refine zA3 ?_; refine zA3 (zA1 ?_); refine zA rfl (zA2 (v := .pointer (some _)) rfl) ?_
     refine zA rfl (zD9 uz32 rfl rfl) ?_; refine zA6 ?_; refine zB4 rfl (rfl) ?_; refine zAd ?_; refine zA3 (zA1 ?_); refine zA rfl (zA2 (v := .pointer (some _)) rfl) ?_; refine zA rfl (zA2 (v := .pointer (some _)) rfl) ?_; refine zA rfl (zA2 (v := .pointer (some _)) rfl) ?_; refine zA rfl (zA2 (v := .int .i64 _) rfl) ?_; refine zA rfl (zBy hs 4 (mfL m e (oa, oc)) rfl zCb zF2 rfl rfl) ?_; refine zA rfl (zA2 (v := .slice _ _ _) rfl) ?_; refine zA rfl (zA2 (v := .slice _ _ _) rfl) ?_; refine zB1 hs rfl ([bV (dx, (a0, c)), bV (dy, (b, d))]) zG1 zs22 rfl (two_all rfl rfl) rfl rfl rfl ?_; clear hs; intro b70 w hs
     try simp only [zzs, zzz] at hs
     refine zAb rfl en15 (upNew_sl hE (hs.arr [2, 3, 0, 1, 4, 5] 6 (by decide)) (each := ea) hea (m := m) (e := e) (o := (oa, oc)) (hm _) (by omega) (fun h => by have := mf_eps h; omega) (bl := [(dx, (a0, c)), (dy, (b, d))]) (Rd.cells 0 rfl rfl) (two_all (hx.rd _) (hy.rd _)) (two_all (show dx.length ≤ 1048576 by omega) (show dy.length ≤ 1048576 by omega)) (is := false) (z := (0, 0, 0, 0)) (k4.jnone up_up (zFy _ _ mt_up.symm)) (by decide)) ?_; clear hs; rintro _ w hN; obtain ⟨pp, eb, rfl, hpp, hs⟩ := hN.both (show (0 : Int) < 2 by decide); obtain ⟨FF, hFF⟩ : ∃ FF, FF = upF ea m [dx, dy] := ⟨_, rfl⟩
     replace hs : Mem g w (flC ad FF eb :: zDl l d0 3 [] 0 0 0 :: zBc d0 dk2 :: cells b70 [bV (dx, (a0, c)), bV (dy, (b, d))] 22 :: zBf c0 sp 1 0 :: zB8 sp St.empty :: cells b6 (mfL m e (oa, oc)) 39 :: []) := by rw [hFF]; exact hs
     replace hpp : pp = none ↔ FF.1 ≠ 0 := by rw [hFF]; exact hpp
     rw [show upF ea m (List.map (fun x => x.fst) [(dx, (a0, c)), (dy, (b, d))]) = FF from hFF.symm]; refine zA rfl (zA2 (v := .tuple _) rfl) ?_; refine zA rfl (zAa (v := .pointer _) rfl rfl) ?_; refine zA rfl (zAa (v := flV ad _ _) rfl rfl) ?_; refine zA rfl (zA0 (v := .pointer _) rfl) ?_; refine zA rfl (zA0 (v := flV ad _ _) rfl) ?_; refine zA6 (zA3 (zA1 ?_)); refine zAb rfl en22 (none_sl hs) ?_; clear hs; rintro _ w ⟨rfl, hs⟩; refine zBn hs rfl ze42 ?_; clear hs; intro b17 w hs
     try simp only [zzs, zzz] at hs
     refine zAn hs 0 rfl rfl rfl zE4 rfl rfl ?_; clear hs; intro w hs
     try simp only [zzs, zzz] at hs
     refine zA6 (zA3 (zA1 ?_)); refine zA rfl (zBa hs 7 rfl zCb zF2 rfl) ?_; refine zAb rfl en23 (rManifest_sl (m := m) (e := e) (o := (oa, oc)) hs (hm _) (by omega)) ?_; clear hs; rintro _ w ⟨rfl, hs⟩; refine zBn hs rfl ze42 ?_; clear hs; intro b18 w hs
     try simp only [zzs, zzz] at hs
     refine zAn hs 0 rfl rfl rfl zE4 rfl rfl ?_; clear hs; intro w hs
     try simp only [zzs, zzz] at hs
     refine zA6 ?_; replace hs : Mem g w (cells b17 (fltL (0, none)) 42 :: cells b18 (fltL (mfF m)) 42 :: flC ad FF eb :: zDl l d0 3 [] 0 0 0 :: zBc d0 dk2 :: cells b70 [bV (dx, (a0, c)), bV (dy, (b, d))] 22 :: zBf c0 sp 1 0 :: zB8 sp St.empty :: cells b6 (mfL m e (oa, oc)) 39 :: []) := hs.arr [1, 0, 2, 3, 4, 5, 6, 7, 8] 9 (by decide)
     refine cw_mid (X := Unit) [19, 20, 21, 77, 78, 79, 80, 81, 82, 83, 84, 85, 86, 87, 88, 89, 90, 91, 92, 93, 94, 95, 96, 97, 98, 99, 100, 101, 102, 103, 104, 105, 106, 107, 108, 109, 110, 111, 112, 113, 114, 115, 116, 117, 118, 119, 120, 121, 122, 123, 124, 125, 126, 127, 128, 129] (fun _ => []) (fun _ w => Mem g w (cells b17 (fltL FF) 42 :: cells b18 (fltL (mfF m)) 42 :: flC ad FF eb :: zDl l d0 3 [] 0 0 0 :: zBc d0 dk2 :: cells b70 [bV (dx, (a0, c)), bV (dy, (b, d))] 22 :: zBf c0 sp 1 0 :: zB8 sp St.empty :: cells b6 (mfL m e (oa, oc)) 39 :: [])) ?_ ?_
     ·
      refine zAo ?_; refine zA3 (zA1 ?_); refine zA rfl (zA2 (v := .int .i64 _) rfl) ?_; refine zA rfl (zB9 rfl rfl) ?_; refine zA rfl (zA2 (v := .bool _) rfl) ?_; refine zB0 (t := _) (d := 114) rfl ?_ ?_
      ·
       intro h113; have g113 := of_decide_eq_true h113; refine zA9 rfl rfl rfl h113 ?_; refine zA9 rfl rfl rfl h113 ?_; refine zA rfl (zAk (v := .bool _) rfl h113 rfl) ?_; refine zA rfl (zA0 (v := .bool _) rfl) ?_; refine zA6 ?_; refine zB6 rfl rfl ?_; refine zA1 ?_; refine zAb rfl en24 (zD0 hs 105) ?_; clear hs; rintro _ w ⟨rfl, hs⟩; refine zAn hs 0 rfl rfl rfl zE4 rfl rfl ?_; clear hs; intro w hs
       try simp only [zzs, zzz] at hs
       refine zA6 ?_
       have hF : FF = (105, none) := by rw [hFF, upF, if_pos (by omega)]
       exact ⟨(), by rw [hF] at hs ⊢; exact hs, trivial, by repeat (first | with_reducible exact Out.refl _ _ | refine Out.updo rfl ?_ | refine Out.upd rfl ?_ | refine Out.mixIn rfl ?_)⟩
      ·
       intro h113; have g113 := of_decide_eq_false h113; refine zAi rfl rfl h113 ?_; refine zA rfl (zA2 (v := .int .i64 _) rfl) ?_; refine zAi rfl rfl h113 ?_; refine zA rfl (zBl rfl rfl) ?_; refine zA rfl (zAg (v := .bool _) rfl h113 rfl) ?_; refine zA rfl (zA0 (v := .bool _) rfl) ?_; refine zA6 ?_; refine zB rfl ?_ ?_
       ·
        intro h116; have g116 := of_decide_eq_true h116; refine zA1 ?_; refine zAb rfl en24 (zD0 hs 105) ?_; clear hs; rintro _ w ⟨rfl, hs⟩; refine zAn hs 0 rfl rfl rfl zE4 rfl rfl ?_; clear hs; intro w hs
        try simp only [zzs, zzz] at hs
        refine zA6 ?_
        have hF : FF = (105, none) := by rw [hFF, upF, if_pos (by omega)]
        exact ⟨(), by rw [hF] at hs ⊢; exact hs, trivial, by repeat (first | with_reducible exact Out.refl _ _ | refine Out.updo rfl ?_ | refine Out.upd rfl ?_ | refine Out.mixIn rfl ?_)⟩
       ·
        intro h116; have g116 := of_decide_eq_false h116; refine zA3 (zA1 ?_); refine zA rfl (zA4 (o' := 0) uz42 rfl sz3 rfl rfl rfl) ?_; refine zA rfl (zA7 uz3 rfl rfl (hs.cellAt 1 rfl rfl)) ?_; refine zA rfl (zCf rfl rfl) ?_; refine zA rfl (zA0 (v := .bool _) rfl) ?_; refine zA6 ?_; refine zB rfl ?_ ?_
        ·
         intro h122; have g122 := zEt h122; refine zA1 ?_; refine zA rfl (zBa hs 1 rfl uz42 zE4 rfl) ?_; refine zAn hs 0 rfl rfl rfl zE4 rfl rfl ?_; clear hs; intro w hs
         try simp only [zzs, zzz] at hs
         refine zA6 ?_
         have hF : FF = mfF m := by rw [hFF, upF, if_neg (by omega), if_pos (by omega)]
         exact ⟨(), by rw [hF] at hs ⊢; exact hs, trivial, by repeat (first | with_reducible exact Out.refl _ _ | refine Out.updo rfl ?_ | refine Out.upd rfl ?_ | refine Out.mixIn rfl ?_)⟩
        ·
         intro h122; have g122 := zEs h122; refine zA3 (zA1 ?_); refine zA rfl (zA4 (o' := 5) zCb rfl sz37 rfl rfl rfl) ?_; refine zA rfl (zA7 zDf rfl rfl (hs.cellAt 8 rfl rfl)) ?_; refine zA rfl (zAt zDf rfl) ?_; refine zA rfl (zCf rfl rfl) ?_; refine zA rfl (zA0 (v := .bool _) rfl) ?_; refine zA6 ?_; refine zB rfl ?_ ?_
         ·
          intro h128; have g128 := zEt h128; refine zA1 ?_; refine zAb rfl en24 (zD0 hs 103) ?_; clear hs; rintro _ w ⟨rfl, hs⟩; refine zAn hs 0 rfl rfl rfl zE4 rfl rfl ?_; clear hs; intro w hs
          try simp only [zzs, zzz] at hs
          refine zA6 ?_
          have hF : FF = (103, none) := by rw [hFF, upF, if_neg (by omega), if_neg (by omega), if_pos (by simp only [List.length_cons, List.length_nil]; omega)]
          exact ⟨(), by rw [hF] at hs ⊢; exact hs, trivial, by repeat (first | with_reducible exact Out.refl _ _ | refine Out.updo rfl ?_ | refine Out.upd rfl ?_ | refine Out.mixIn rfl ?_)⟩
         ·
          intro h128; have g128 := zEs h128; obtain ⟨o0, o1, hobs⟩ : ∃ o0 o1, m.obs = [o0, o1] := list_two (by omega); obtain ⟨bo, oo, rfl⟩ := (hm _).obs.at hs (by rw [zE9]; omega); obtain ⟨E, rfl⟩ : ∃ E : Nat, ea = ((E + 1 : Nat) : Int) := ⟨(ea - 1).toNat, by omega⟩; have hvn := mf_names (show (mfF m).1 = 0 by omega)
          have hF2 : FF = refW (rG (E + 1) o0 dx) (rG (E + 1) o1 dy) 2 := by rw [hFF, upF, if_neg (by omega), if_neg (by omega), if_neg (by simp only [List.length_cons, List.length_nil]; omega), hobs, upG_two, rG_eq (by omega) (hvn o0 (by rw [hobs]; simp)), rG_eq (by omega) (hvn o1 (by rw [hobs]; simp))]
          refine zA3 (zA1 ?_); refine zA rfl (zA0 (v := .int .i64 _) rfl) ?_; refine zA6 ?_; refine zAo ?_; refine zBr (X := Nat) [19, 20, 21, 77, 78, 79, 80, 81, 82, 83, 84, 85, 86, 87, 88, 89, 90, 91, 92, 93, 94, 95, 96, 97, 98, 99, 100, 101, 102, 103, 104, 105, 106, 107, 108, 109, 110] (fun j => [(19, .int .i64 (1 - (j : Int)))]) (fun j w => j ≤ 2 ∧ Mem g w (cells b17 (fltL (refW (rG (E + 1) o0 dx) (rG (E + 1) o1 dy) j)) 42 :: cells b18 (fltL (mfF m)) 42 :: flC ad FF eb :: zDl l d0 3 [] 0 0 0 :: zBc d0 dk2 :: cells b70 [bV (dx, (a0, c)), bV (dy, (b, d))] 22 :: zBf c0 sp 1 0 :: zB8 sp St.empty :: cells b6 (mfL m e (some ⟨bo, oo, none⟩, oc)) 39 :: [])) (fun j => 2 - j) (0) ?_ ?_ ?_
          · exact ⟨rfl, trivial⟩
          · exact ⟨by omega, hs⟩
          clear hs; rintro x ξ w hI; obtain ⟨hj, hs⟩ := hI; refine zA3 ?_; refine zA3 (zA1 ?_); refine zA rfl (zA2 (v := .int .i64 _) rfl) ?_; refine zA rfl (zCw rfl rfl) ?_; refine zA6 ?_; refine zB rfl ?_ ?_
          ·
           intro h78; have g78 := of_decide_eq_true h78; refine zAd ?_; refine zA3 ?_; refine zAo ?_; refine zA3 ?_
           rcases (show x = 0 ∨ x = 1 by omega) with rfl | rfl
           ·
            refine zA1 ?_; refine zA rfl (zA2 (v := .slice _ _ _) rfl) ?_; refine zA rfl (zA2 (v := .slice _ _ _) rfl) ?_; refine zB1 hs rfl ([.slice a0 dx.length c, .slice b dy.length d]) zG1 zs22 rfl (two_all rfl rfl) rfl rfl rfl ?_; clear hs; intro b83 w hs
            try simp only [zzs, zzz] at hs
            refine zA rfl (zA2 (v := .int .i64 _) rfl) ?_; refine zA rfl (zBb zG1 sz22 rfl rfl (i := 1) rfl (by decide) rfl) ?_; refine zA rfl (zA7 zCk rfl rfl (hs.cellAt 0 rfl rfl)) ?_; refine zA rfl (zA0 (v := .slice _ _ _) rfl) ?_; refine zA6 (zA3 (zA1 ?_)); refine zA rfl (zA4 (o' := 5) zCb rfl sz37 rfl rfl rfl) ?_; refine zA rfl (zA7 zDf rfl rfl (hs.cellAt 9 rfl rfl)) ?_; refine zA rfl (zA2 (v := .int .i64 _) rfl) ?_; refine zA rfl (zAs zDf sz66 rfl rfl (i := 1) rfl (show 1 < m.obs.length by omega) rfl) ?_; refine zA rfl (zCo (cs := obL o1) uz66 sz66 rfl (fun j v hj => (hm _).obs.cell hs (zFg (show m.obs[1]? = some o1 by rw [hobs]; rfl)) hj)) ?_
            refine zA rfl (zA2 (v := .slice _ _ _) rfl) ?_; refine zAb rfl en25 (refCk_sl hs (b := dy) (hy.rd _) (by omega)) ?_; clear hs; rintro _ w ⟨rfl, hs⟩; refine zA rfl (zA0 (v := .int .i64 _) rfl) ?_; refine zA6 ?_; refine zA3 ?_; refine zA3 (zA1 ?_); refine zA rfl (zA2 (v := .int .i64 _) rfl) ?_; refine zA rfl (zBo rfl rfl) ?_; refine zA rfl (zA2 (v := .bool _) rfl) ?_; refine zB0 (t := _) (d := 96) rfl ?_ ?_
            ·
             intro h95; have g95 := of_decide_eq_true h95; refine zAi rfl rfl h95 ?_; refine zA rfl (zA2 (v := .slice _ _ _) rfl) ?_; refine zAi rfl rfl h95 ?_; refine zA rfl (zAt zCk rfl) ?_; refine zAi rfl rfl h95 ?_; refine zA rfl (zA2 (v := .int .i64 _) rfl) ?_; refine zAi rfl rfl h95 ?_; refine zA rfl (zAu rfl rfl rfl (inI (by omega) (by omega))) ?_; refine zAi rfl rfl h95 ?_; refine zA rfl (zC8 rfl rfl rfl (inI (by omega) (by omega))) ?_; refine zAi rfl rfl h95 ?_; refine zA rfl (zA2 (v := .int .i64 _) rfl) ?_; refine zAi rfl rfl h95 ?_
             refine zA rfl (run_quo64 rfl rfl (c := ((zB2 dy.length (E + 1) : Nat) : Int)) (by omega) (by omega) (quo_parts _ _) (inI (by omega) (by omega))) ?_; refine zAi rfl rfl h95 ?_; refine zA rfl (zBl rfl rfl) ?_; refine zA rfl (zAk (v := .bool _) rfl h95 rfl) ?_; refine zA6 ?_; refine zB rfl ?_ ?_
             ·
              intro h104; have g104 := of_decide_eq_true h104; refine zA1 ?_; refine zA rfl (zA0 (v := .int .i64 _) rfl) ?_; refine zA6 (zA3 (zA1 ?_)); refine zA rfl (zA2 (v := .int .i64 _) rfl) ?_; refine zA rfl (zCf rfl rfl) ?_; refine zA6 ?_; refine zB6 rfl (rfl) ?_; refine zA1 ?_; refine zA rfl (zA2 (v := .int .i64 _) rfl) ?_; refine zA rfl (zA2 (v := .int .i64 _) rfl) ?_; refine zAb rfl en26 (zEd hs (c := 104) (by decide) 1) ?_; clear hs; rintro _ w ⟨rfl, hs⟩; refine zAn hs 1 rfl rfl rfl zE4 rfl rfl ?_; clear hs; intro w hs
              try simp only [zzs, zzz] at hs
              refine zA6 ?_; refine zA1 ?_; refine zA rfl (zA2 (v := .int .i64 _) rfl) ?_; refine zA rfl (zC8 rfl rfl rfl (inI (by omega) (by omega))) ?_; refine zA rfl (zA0 (v := .int .i64 _) rfl) ?_; refine zA6 ?_; have hg : rG (E + 1) o1 dy = 104 := rG_b (by omega) (by omega)
              have e1 : refW (rG (E + 1) o0 dx) (rG (E + 1) o1 dy) 1 = (104, some 1) := by rw [refW_1a (by rw [hg]; decide), hg]
              exact ⟨1, by omega, ⟨by omega, by rw [e1]; exact hs.tail⟩, ⟨rfl, trivial⟩, by repeat (first | exact Out.mix _ _ _ | refine Out.updo rfl ?_ | refine Out.upd rfl ?_ | refine Out.mixIn rfl ?_)⟩
             ·
              intro h104; have g104 := of_decide_eq_false h104; refine zAd ?_; refine zA3 (zA1 ?_); refine zA rfl (zA2 (v := .int .i64 _) rfl) ?_; refine zA rfl (zCf rfl rfl) ?_; refine zA6 ?_; refine zB4 rfl (zBj (decide_eq_true g95)) ?_; refine zAd ?_; refine zA1 ?_; refine zA rfl (zA2 (v := .int .i64 _) rfl) ?_; refine zA rfl (zC8 rfl rfl rfl (inI (by omega) (by omega))) ?_; refine zA rfl (zA0 (v := .int .i64 _) rfl) ?_; refine zA6 ?_; have hg : rG (E + 1) o1 dy = 0 := rG_c (by omega) (by omega); have e1 : refW (rG (E + 1) o0 dx) (rG (E + 1) o1 dy) 1 = refW (rG (E + 1) o0 dx) (rG (E + 1) o1 dy) 0 := refW_1b hg
              exact ⟨1, by omega, ⟨by omega, by rw [e1]; exact hs.tail⟩, ⟨rfl, trivial⟩, by repeat (first | exact Out.mix _ _ _ | refine Out.updo rfl ?_ | refine Out.upd rfl ?_ | refine Out.mixIn rfl ?_)⟩
            ·
             intro h95; have g95 := of_decide_eq_false h95; refine zA9 rfl rfl rfl h95 ?_; refine zA9 rfl rfl rfl h95 ?_; refine zA9 rfl rfl rfl h95 ?_; refine zA9 rfl rfl rfl h95 ?_; refine zA9 rfl rfl rfl h95 ?_; refine zA9 rfl rfl rfl h95 ?_; refine zA9 rfl rfl rfl h95 ?_; refine zA9 rfl rfl rfl h95 ?_; refine zA rfl (zAg (v := .bool _) rfl h95 rfl) ?_; refine zA6 ?_; refine zB4 rfl rfl ?_; refine zAd ?_; refine zA3 (zA1 ?_); refine zA rfl (zA2 (v := .int .i64 _) rfl) ?_; refine zA rfl (zCf rfl rfl) ?_; refine zA6 ?_; refine zB6 rfl ((by rw [h95]; rfl)) ?_; refine zA1 ?_; refine zA rfl (zA2 (v := .int .i64 _) rfl) ?_; refine zA rfl (zA2 (v := .int .i64 _) rfl) ?_
             refine zAb rfl en26 (zEd hs (c := obCk o1 dy) (fun h => of_decide_eq_false h95 (by rw [h]; rfl)) 1) ?_; clear hs; rintro _ w ⟨rfl, hs⟩; refine zAn hs 1 rfl rfl rfl zE4 rfl rfl ?_; clear hs; intro w hs
             try simp only [zzs, zzz] at hs
             refine zA6 ?_; refine zA1 ?_; refine zA rfl (zA2 (v := .int .i64 _) rfl) ?_; refine zA rfl (zC8 rfl rfl rfl (inI (by omega) (by omega))) ?_; refine zA rfl (zA0 (v := .int .i64 _) rfl) ?_; refine zA6 ?_; have hg : rG (E + 1) o1 dy = obCk o1 dy := rG_a (fun h => of_decide_eq_false h95 (by rw [h]; rfl))
             have e1 : refW (rG (E + 1) o0 dx) (rG (E + 1) o1 dy) 1 = (obCk o1 dy, some 1) := by rw [refW_1a (by rw [hg]; exact fun h => of_decide_eq_false h95 (by rw [h]; rfl)), hg]
             exact ⟨1, by omega, ⟨by omega, by rw [e1]; exact hs.tail⟩, ⟨rfl, trivial⟩, by repeat (first | exact Out.mix _ _ _ | refine Out.updo rfl ?_ | refine Out.upd rfl ?_ | refine Out.mixIn rfl ?_)⟩
           ·
            refine zA1 ?_; refine zA rfl (zA2 (v := .slice _ _ _) rfl) ?_; refine zA rfl (zA2 (v := .slice _ _ _) rfl) ?_; refine zB1 hs rfl ([.slice a0 dx.length c, .slice b dy.length d]) zG1 zs22 rfl (two_all rfl rfl) rfl rfl rfl ?_; clear hs; intro b83 w hs
            try simp only [zzs, zzz] at hs
            refine zA rfl (zA2 (v := .int .i64 _) rfl) ?_; refine zA rfl (zBb zG1 sz22 rfl rfl (i := 0) rfl (by decide) rfl) ?_; refine zA rfl (zA7 zCk rfl rfl (hs.cellAt 0 rfl rfl)) ?_; refine zA rfl (zA0 (v := .slice _ _ _) rfl) ?_; refine zA6 (zA3 (zA1 ?_)); refine zA rfl (zA4 (o' := 5) zCb rfl sz37 rfl rfl rfl) ?_; refine zA rfl (zA7 zDf rfl rfl (hs.cellAt 9 rfl rfl)) ?_; refine zA rfl (zA2 (v := .int .i64 _) rfl) ?_; refine zA rfl (zAs zDf sz66 rfl rfl (i := 0) rfl (show 0 < m.obs.length by omega) rfl) ?_; refine zA rfl (zCo (cs := obL o0) uz66 sz66 rfl (fun j v hj => (hm _).obs.cell hs (zFg (show m.obs[0]? = some o0 by rw [hobs]; rfl)) hj)) ?_
            refine zA rfl (zA2 (v := .slice _ _ _) rfl) ?_; refine zAb rfl en25 (refCk_sl hs (b := dx) (hx.rd _) (by omega)) ?_; clear hs; rintro _ w ⟨rfl, hs⟩; refine zA rfl (zA0 (v := .int .i64 _) rfl) ?_; refine zA6 ?_; refine zA3 ?_; refine zA3 (zA1 ?_); refine zA rfl (zA2 (v := .int .i64 _) rfl) ?_; refine zA rfl (zBo rfl rfl) ?_; refine zA rfl (zA2 (v := .bool _) rfl) ?_; refine zB0 (t := _) (d := 96) rfl ?_ ?_
            ·
             intro h95; have g95 := of_decide_eq_true h95; refine zAi rfl rfl h95 ?_; refine zA rfl (zA2 (v := .slice _ _ _) rfl) ?_; refine zAi rfl rfl h95 ?_; refine zA rfl (zAt zCk rfl) ?_; refine zAi rfl rfl h95 ?_; refine zA rfl (zA2 (v := .int .i64 _) rfl) ?_; refine zAi rfl rfl h95 ?_; refine zA rfl (zAu rfl rfl rfl (inI (by omega) (by omega))) ?_; refine zAi rfl rfl h95 ?_; refine zA rfl (zC8 rfl rfl rfl (inI (by omega) (by omega))) ?_; refine zAi rfl rfl h95 ?_; refine zA rfl (zA2 (v := .int .i64 _) rfl) ?_; refine zAi rfl rfl h95 ?_
             refine zA rfl (run_quo64 rfl rfl (c := ((zB2 dx.length (E + 1) : Nat) : Int)) (by omega) (by omega) (quo_parts _ _) (inI (by omega) (by omega))) ?_; refine zAi rfl rfl h95 ?_; refine zA rfl (zBl rfl rfl) ?_; refine zA rfl (zAk (v := .bool _) rfl h95 rfl) ?_; refine zA6 ?_; refine zB rfl ?_ ?_
             ·
              intro h104; have g104 := of_decide_eq_true h104; refine zA1 ?_; refine zA rfl (zA0 (v := .int .i64 _) rfl) ?_; refine zA6 (zA3 (zA1 ?_)); refine zA rfl (zA2 (v := .int .i64 _) rfl) ?_; refine zA rfl (zCf rfl rfl) ?_; refine zA6 ?_; refine zB6 rfl (rfl) ?_; refine zA1 ?_; refine zA rfl (zA2 (v := .int .i64 _) rfl) ?_; refine zA rfl (zA2 (v := .int .i64 _) rfl) ?_; refine zAb rfl en26 (zEd hs (c := 104) (by decide) 0) ?_; clear hs; rintro _ w ⟨rfl, hs⟩; refine zAn hs 1 rfl rfl rfl zE4 rfl rfl ?_; clear hs; intro w hs
              try simp only [zzs, zzz] at hs
              refine zA6 ?_; refine zA1 ?_; refine zA rfl (zA2 (v := .int .i64 _) rfl) ?_; refine zA rfl (zC8 rfl rfl rfl (inI (by omega) (by omega))) ?_; refine zA rfl (zA0 (v := .int .i64 _) rfl) ?_; refine zA6 ?_; have hg : rG (E + 1) o0 dx = 104 := rG_b (by omega) (by omega)
              have e1 : refW (rG (E + 1) o0 dx) (rG (E + 1) o1 dy) 2 = (104, some 0) := by rw [refW_2a (by rw [hg]; decide), hg]
              exact ⟨2, by omega, ⟨by omega, by rw [e1]; exact hs.tail⟩, ⟨rfl, trivial⟩, by repeat (first | exact Out.mix _ _ _ | refine Out.updo rfl ?_ | refine Out.upd rfl ?_ | refine Out.mixIn rfl ?_)⟩
             ·
              intro h104; have g104 := of_decide_eq_false h104; refine zAd ?_; refine zA3 (zA1 ?_); refine zA rfl (zA2 (v := .int .i64 _) rfl) ?_; refine zA rfl (zCf rfl rfl) ?_; refine zA6 ?_; refine zB4 rfl (zBj (decide_eq_true g95)) ?_; refine zAd ?_; refine zA1 ?_; refine zA rfl (zA2 (v := .int .i64 _) rfl) ?_; refine zA rfl (zC8 rfl rfl rfl (inI (by omega) (by omega))) ?_; refine zA rfl (zA0 (v := .int .i64 _) rfl) ?_; refine zA6 ?_; have hg : rG (E + 1) o0 dx = 0 := rG_c (by omega) (by omega); have e1 : refW (rG (E + 1) o0 dx) (rG (E + 1) o1 dy) 2 = refW (rG (E + 1) o0 dx) (rG (E + 1) o1 dy) 1 := refW_2b hg
              exact ⟨2, by omega, ⟨by omega, by rw [e1]; exact hs.tail⟩, ⟨rfl, trivial⟩, by repeat (first | exact Out.mix _ _ _ | refine Out.updo rfl ?_ | refine Out.upd rfl ?_ | refine Out.mixIn rfl ?_)⟩
            ·
             intro h95; have g95 := of_decide_eq_false h95; refine zA9 rfl rfl rfl h95 ?_; refine zA9 rfl rfl rfl h95 ?_; refine zA9 rfl rfl rfl h95 ?_; refine zA9 rfl rfl rfl h95 ?_; refine zA9 rfl rfl rfl h95 ?_; refine zA9 rfl rfl rfl h95 ?_; refine zA9 rfl rfl rfl h95 ?_; refine zA9 rfl rfl rfl h95 ?_; refine zA rfl (zAg (v := .bool _) rfl h95 rfl) ?_; refine zA6 ?_; refine zB4 rfl rfl ?_; refine zAd ?_; refine zA3 (zA1 ?_); refine zA rfl (zA2 (v := .int .i64 _) rfl) ?_; refine zA rfl (zCf rfl rfl) ?_; refine zA6 ?_; refine zB6 rfl ((by rw [h95]; rfl)) ?_; refine zA1 ?_; refine zA rfl (zA2 (v := .int .i64 _) rfl) ?_; refine zA rfl (zA2 (v := .int .i64 _) rfl) ?_
             refine zAb rfl en26 (zEd hs (c := obCk o0 dx) (fun h => of_decide_eq_false h95 (by rw [h]; rfl)) 0) ?_; clear hs; rintro _ w ⟨rfl, hs⟩; refine zAn hs 1 rfl rfl rfl zE4 rfl rfl ?_; clear hs; intro w hs
             try simp only [zzs, zzz] at hs
             refine zA6 ?_; refine zA1 ?_; refine zA rfl (zA2 (v := .int .i64 _) rfl) ?_; refine zA rfl (zC8 rfl rfl rfl (inI (by omega) (by omega))) ?_; refine zA rfl (zA0 (v := .int .i64 _) rfl) ?_; refine zA6 ?_; have hg : rG (E + 1) o0 dx = obCk o0 dx := rG_a (fun h => of_decide_eq_false h95 (by rw [h]; rfl))
             have e1 : refW (rG (E + 1) o0 dx) (rG (E + 1) o1 dy) 2 = (obCk o0 dx, some 0) := by rw [refW_2a (by rw [hg]; exact fun h => of_decide_eq_false h95 (by rw [h]; rfl)), hg]
             exact ⟨2, by omega, ⟨by omega, by rw [e1]; exact hs.tail⟩, ⟨rfl, trivial⟩, by repeat (first | exact Out.mix _ _ _ | refine Out.updo rfl ?_ | refine Out.upd rfl ?_ | refine Out.mixIn rfl ?_)⟩
          ·
           intro h78; have g78 := of_decide_eq_false h78; refine zBp rfl ?_
           obtain rfl : x = 2 := by omega
           exact ⟨(), by rw [← hF2] at hs; exact hs, trivial, by repeat (first | with_reducible exact Out.refl _ _ | refine Out.updo rfl ?_ | refine Out.upd rfl ?_ | refine Out.mixIn rfl ?_)⟩
     ·
      clear hs; rintro x ξ w hI; have hs := hI; clear hI; refine zA3 ?_; refine zA3 (zA1 ?_); refine zA rfl (zA2 (v := flV ad _ _) rfl) ?_; refine zA rfl (zBa hs 0 rfl uz42 zE4 rfl) ?_; refine zAb rfl en27 (sameFt_sl (F := FF) hA (by rw [hFF]; exact upF_flt _ _ _) (hs.arr [2, 0, 1, 3, 4, 5, 6, 7, 8] 9 (by decide))) ?_; clear hs; rintro _ w ⟨rfl, hs⟩; refine zA rfl (zBt rfl) ?_; refine zA rfl (zA2 (v := .bool _) rfl) ?_; refine zAi rfl rfl (zBj (rfl)) ?_; refine zA rfl (zA2 (v := .pointer _) rfl) ?_; refine zAi rfl rfl (zBj (rfl)) ?_; refine zA rfl (zD9 uz47 rfl rfl) ?_; refine zAi rfl rfl (zBj (rfl)) ?_; refine zA rfl (zA4 (o' := 0) uz42 rfl sz3 rfl rfl rfl) ?_
      refine zAi rfl rfl (zBj (rfl)) ?_; refine zA rfl (zA7 uz3 rfl rfl (hs.cellAt 1 rfl rfl)) ?_; refine zAi rfl rfl (zBj (rfl)) ?_; refine zA rfl (zCf rfl rfl) ?_; refine zAi rfl rfl (zBj (rfl)) ?_; refine zA rfl (run_neb uz4 rfl rfl) ?_; refine zA rfl (zAg (v := .bool _) rfl (zBj (rfl)) rfl) ?_; refine zA6 ?_; refine zB4 rfl ((pp_at hpp)) ?_; refine zAd ?_; refine zA3 (zA1 ?_); refine zA rfl (zA2 (v := .pointer (some _)) rfl) ?_; refine zAb rfl en28 (calls_sl (hs.arr [7, 0, 1, 2, 3, 4, 5, 6, 8] 9 (by decide))) ?_; clear hs; rintro _ w ⟨rfl, hs⟩; refine zA rfl (zBo rfl rfl) ?_; refine zA rfl (zA2 (v := .bool _) rfl) ?_; refine zAi rfl rfl (rfl) ?_
      refine zA rfl (zA2 (v := .pointer (some _)) rfl) ?_; refine zAi rfl rfl (rfl) ?_; refine zAb rfl en29 (seq_sl (hs.arr [4, 0, 1, 2, 3, 5, 6, 7, 8] 9 (by decide))) ?_; clear hs; rintro _ w ⟨rfl, hs⟩; refine zAi rfl rfl (rfl) ?_; refine zA rfl (zBo rfl rfl) ?_; refine zA rfl (zAk (v := .bool _) rfl (rfl) rfl) ?_; refine zA rfl (zA0 (v := .bool _) rfl) ?_; refine zA6 ?_; refine zAc ?_; refine zBd (v := .bool _) rfl rfl ?_; exact ⟨_, rfl, rfl, hs.nil⟩
end
end Go.Proofs.YthejaanobeonnaaGreatDoor
