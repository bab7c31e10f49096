/- UpGoesOn. -/
import Derived.Test.YthejaanobeonnaaGreatDoorGo8
import Derived.Test.YthejaanobeonnaaGreatDoorGo5
set_option linter.all false
namespace Go.Proofs.YthejaanobeonnaaGreatDoor
section
open Go.RowKit
attribute [local irreducible] zAk eV
variable {g w : World} {L M : List HP} {ad : Nat → Addr} {osb : List (ByteArray × List UInt8)} {t : UpT} {u p : Nat}
theorem Errs.aU3 (h : ErrA ad g) : ErrU ad g := Errs.sub h (fun c hc => by simp only [allCodes, upCodes, List.mem_cons, List.not_mem_nil, or_false] at *; omega)
theorem GoI.left {s q c n : Nat} {a : S4} {V : Vw} {dk : Dk} {st : St} {M0 : Nat} (hU : UpOk osb t) (h : GoI osb t s a V q c n dk st M0) : uLeft s st M0 ≤ st.script.length + 702 := by
  have hr := restM_le hU.each.1 hU.small; have h2 := hU.two; rw [osU_len hU] at hr; obtain ⟨_, _, _, _, _, f, _, _, _, ⟨rfl, _, _, _, rfl⟩ | ⟨rfl, _, M1, hob, rfl⟩⟩ := h
  · rw [uLeft0, tLeft, Nat.add_sub_cancel]
    split <;> omega
  · have := hob.le hU.each.1 hU.small (by rw [osU_len hU]; exact h2)
    rw [uLeft1, tLeft, Nat.add_sub_cancel]
    split <;> omega
theorem GoI.down {s q c n : Nat} {a : S4} {V : Vw} {dk : Dk} {st : St} {M0 : Nat} (h : GoI osb t s a V q c n dk st M0) : dk.down = false := by
  obtain ⟨_, _, _, _, _, f, hI, _⟩ := h; exact hI.up
theorem Bnd.up {cb cb' ak : Nat} {st : St} {dk : Dk} (h : Bnd cb ak st dk) (hc : cb ≤ cb') : Bnd cb' ak st dk := ⟨Nat.le_trans h.1 hc, Nat.le_trans h.2.1 hc, Nat.le_trans h.2.2.1 hc, Nat.le_trans h.2.2.2.1 hc, Nat.le_trans h.2.2.2.2 hc⟩
theorem Bnd.anew {cb ak : Nat} {st : St} {dk : Dk} (h : Bnd cb ak st dk) : Bnd cb 0 st dk := ⟨h.1, h.2.1, h.2.2.1, Nat.zero_le _, h.2.2.2.2⟩
def GoR3 (osb : List (ByteArray × List UInt8)) (ad : Nat → Addr) (g : World) (u p tr cb : Nat) (t : UpT) (s : Nat) (dk : Dk) (st : St) (M0 : Nat) (L : List HP) (v : Value) (w' : World) : Prop :=
    (∃ y dk' st' ak' s' a' V' q' c' n' M', v = .tuple #[.bool false, zAk ad y] ∧ (y = 0 ∨ y = 111) ∧ Bnd (cb + 50) ak' st' dk' ∧ GoI osb t s' a' V' q' c' n' dk' st' M' ∧ uLeft s' st' M' < uLeft s st M0 ∧ st'.script.length ≤ st.script.length ∧ (dk.armed = 0 → dk'.armed = 0) ∧ Mem g w' (UpC u t a' false :: zBh t.c p ((tr + 1 : Nat) : Int) (ak' : Nat) :: zB8 p st' :: zDs t.l t.d 3 V' q' c' n' :: zB9 t.d dk' :: L)) ∨
    (∃ st', v = .tuple #[.bool true, zAk ad 0] ∧ PIn osb [] st' ∧ (∀ o ∈ osU t, zAx st'.objs o.1 = some o.2) ∧ Mem g w' (zB8 p st' :: L)) ∨
    (∃ y dk' st' ak', v = .tuple #[.bool false, zAk ad y] ∧ Bnd (cb + 50) ak' st' dk' ∧ DnI osb t st' dk' ∧ dk'.room = 262144 ∧ st'.script.length ≤ st.script.length ∧ dk.armed ≠ 0 ∧ Mem g w' (zB8 p st' :: zB9 t.d dk' :: L))
theorem GoR.split {tr cb s : Nat} {dk : Dk} {st : St} {M0 : Nat} {v : Value} {w' : World} (h : GoR osb ad g u p tr cb t s dk st M0 L v w') : GoR3 osb ad g u p tr cb t s dk st M0 L v w' := by
  obtain ⟨is, y, dk', st', ak', rfl, hB, ⟨rfl, hy, s', a', V', q', c', n', M', h1, h2, h3, h4, hs⟩ | ⟨rfl, rfl, h1, h2, hs⟩ | ⟨rfl, h1, ⟨h2, h3, h4⟩, hs⟩⟩ := h
  · exact .inl ⟨y, dk', st', ak', s', a', V', q', c', n', M', rfl, hy, hB, h1, h2, h3, h4, hs⟩
  · exact .inr (.inl ⟨st', rfl, h1, h2, hs⟩)
  · exact .inr (.inr ⟨y, dk', st', ak', rfl, hB, h1, h2, h3, h4, hs⟩)
theorem goStep3 {q c n : Nat} {dk : Dk} {st : St} {a : S4} {V : Vw} (hE : ErrU ad g) (hU : UpOk osb t) (hm : mfF t.m = (0, none)) (hsu : ∀ o ∈ t.m.obs, o.2.2 < 4294967296) (hob : t.m.obs.length ≤ 1000000) (hF : (mfB t.m).length + 17 ≤ 6021) {s tr ak cb M0 : Nat} (hI : GoI osb t s a V q c n dk st M0) (hB : Bnd cb ak st dk) (hcb : cb ≤ 500000) (htr : tr + 1 ≤ 8)
    (hs : Mem g w (UpC u t a false :: zBh t.c p ((tr + 1 : Nat) : Int) (ak : Nat) :: zB8 p st :: zDs t.l t.d 3 V q c n :: zB9 t.d dk :: L)) :
    Calls Tryz.prog 16 #[.pointer (some ⟨u, 0, none⟩)] w (Ret (GoR3 osb ad g u p tr cb t s dk st M0 L)) := by
  refine (goStep hE hU hm hsu hob hF hI hB hcb htr hs).mono ?_; rintro _ w' ⟨v, rfl, h⟩; exact ⟨_, rfl, h.split⟩
theorem ints_cells (l : List Int) : ∀ u ∈ zCz l, u.cells = #[u] := fun u hu => by
  obtain ⟨x, _, rfl⟩ := List.mem_map.1 hu
  rfl
theorem armed_zero {d : Dk} (h : d.armed = 0) : ({ d with armed := 0 } : Dk) = d := by
  cases d
  simp only at h; subst h
  rfl
set_option maxRecDepth 100000 in
set_option maxHeartbeats 4000000 in
theorem upGoesOn_sl (hA : ErrA ad g) (hs : Mem g w []) {a0 b o a3 : Option Addr} {n m c d r k0 n3 k3 : Nat} {dx dy : List UInt8} {outs arms : List Int} {ea : Int} (hx : Came g (.slice a0 n c) (zAn dx)) (hy : Came g (.slice b m d) (zAn dy)) (hz : Came g (.slice a3 n3 k3) (zCz arms)) (ho : Came g (.slice o r k0) (zCz outs)) (hn : n = dx.length) (hm : m = dy.length) (hn3 : n3 = arms.length) (hr : r = outs.length) :
    Calls Tryz.prog 7 #[.slice a0 n c, .slice b m d, .int .i64 ea, .slice a3 n3 k3, .slice o r k0] w (Ret fun v w' => v = .bool true ∧ Mem g w' []) := by
  subst hn hm hn3 hr; have hE := hA.aU3; refine zAh Tryz.func7 rfl rfl ?_
  refine zA4 (zA2 (J5 rfl (zA6 (zA4 (zA2 (Qg en8 (first21_sl hE hs) ?_)))))); clear hs; rintro _ w ⟨rfl, hs⟩; refine J5 rfl (zA6 (zA4 (zA4 (zA2 (J2 rfl (Jr rfl (zA6 (zAz rfl (zBt (rfl)) (zAd (zA4 (zA2 (J0 rfl ?_)))))))))))); refine Qg en9 (number_sl hs _ _ (by decide)) ?_; clear hs; rintro _ w ⟨e0, he0, rfl, hs⟩; refine Jo rfl rfl (c := ((e0 + 1 : Nat) : Int)) (by omega) (inI (by omega) (by omega)) ?_
  refine J4 rfl (zA6 (zA4 (zA4 (zA2 (J7 rfl (Js zC6 rfl (Jt rfl rfl (J2 rfl (zB3 (t := _) (d := 33) rfl ?_ ?_)))))))))
  ·
   intro h32; have g32 := of_decide_eq_true h32; refine Qe rfl rfl h32 (Qe rfl rfl h32 (Qe rfl rfl h32 (Ja rfl h32 rfl (J2 rfl (Qe rfl rfl rfl (Qe rfl rfl rfl (Qe rfl rfl rfl (Ja rfl rfl rfl (J2 rfl (Qe rfl rfl rfl ?_)))))))))); refine Qe rfl rfl rfl (Qe rfl rfl rfl (Ja rfl rfl rfl (J2 rfl (Qe rfl rfl rfl (Qe rfl rfl rfl ?_)))))
   exact Ja rfl rfl rfl (zA6 (zBc rfl rfl (zA4 (zA2 (J2 rfl (J5 rfl (zA6 (zAe (zBi (v := .bool _) rfl rfl ⟨_, rfl, rfl, hs⟩)))))))))
  ·
   intro h32; have g32 := of_decide_eq_false h32; refine zAl rfl rfl h32 (J7 rfl (zAl rfl rfl h32 (Js zC6 rfl (zAl rfl rfl h32 (Jt rfl rfl (J9 rfl h32 rfl (J2 rfl (zB3 (t := _) (d := 38) rfl ?_ ?_))))))))
   ·
    intro h36; have g36 := of_decide_eq_true h36; refine Qe rfl rfl h36 (Qe rfl rfl h36 (Qe rfl rfl h36 (Ja rfl h36 rfl (J2 rfl (Qe rfl rfl rfl (Qe rfl rfl rfl (Qe rfl rfl rfl (Ja rfl rfl rfl (J2 rfl (Qe rfl rfl rfl ?_)))))))))); refine Qe rfl rfl rfl (Ja rfl rfl rfl (zA6 (zBc rfl rfl (zA4 (zA2 (J2 rfl (J5 rfl (zA6 ?_))))))))
    exact zAe (zBi (v := .bool _) rfl rfl ⟨_, rfl, rfl, hs⟩)
   ·
    intro h36; have g36 := of_decide_eq_false h36; refine zAl rfl rfl h36 (J7 rfl (zAl rfl rfl h36 (Js uz74 rfl (zAl rfl rfl h36 (Jt rfl rfl (J9 rfl h36 rfl (J2 rfl (zB3 (t := _) (d := 43) rfl ?_ ?_))))))))
    ·
     intro h41; have g41 := of_decide_eq_true h41; refine Qe rfl rfl h41 (Qe rfl rfl h41 (Qe rfl rfl h41 (Ja rfl h41 rfl (J2 rfl (Qe rfl rfl rfl (Qe rfl rfl rfl (Ja rfl rfl rfl (zA6 (zBc rfl rfl (zA4 (zA2 ?_))))))))))); exact J2 rfl (J5 rfl (zA6 (zAe (zBi (v := .bool _) rfl rfl ⟨_, rfl, rfl, hs⟩))))
    ·
     intro h41; have g41 := of_decide_eq_false h41; refine zAl rfl rfl h41 (J7 rfl (zAl rfl rfl h41 (Js uz74 rfl (zAl rfl rfl h41 (Jt rfl rfl (J9 rfl h41 rfl (J2 rfl (zB3 (t := _) (d := 48) rfl ?_ ?_))))))))
     ·
      intro h46; have g46 := of_decide_eq_true h46; refine Qe rfl rfl h46 (Qe rfl rfl h46 (Ja rfl h46 rfl (zA6 (zBc rfl rfl (zA4 (zA2 (J2 rfl (J5 rfl (zA6 (zAe (zBi (v := .bool _) rfl rfl ?_))))))))))); exact ⟨_, rfl, rfl, hs⟩
     ·
      intro h46; have g46 := of_decide_eq_false h46; refine zAl rfl rfl h46 (J2 rfl (zAl rfl rfl h46 (Jr rfl (J9 rfl h46 rfl (zA6 (zAz rfl (zBt (rfl)) (zAd (zA4 (zA2 (Qg en10 (newd_sl hs (r := 262144) (by decide) (by decide)) ?_)))))))))); clear hs; rintro _ w ⟨d0, rfl, hs⟩; refine Jc rfl (Ju (v := .pointer (some _)) rfl rfl (Jk rfl rfl (Jd rfl (J3 rfl (zA6 ?_)))))
      refine zA4 (zA4 (zA2 (J1 rfl (Qa (zDj uz25 rfl rfl) (J2 rfl (zAl rfl rfl (rfl) (Jj rfl (zAl rfl rfl (rfl) (Jz rfl (J9 rfl (rfl) rfl (zA6 ?_))))))))))); refine zAz rfl (rfl) (zAd (zA4 (zA2 (Qg en11 (new_sl hs) ?_)))); clear hs; rintro _ w ⟨sp, rfl, hs⟩; refine Jd rfl (zA6 (zA4 (zA2 (J1 rfl (J7 rfl ?_)))))
      refine Qg en33 (script_sl hs (outs := outs) (ho.rd _) (by simp [St.empty]; omega)) ?_; clear hs; rintro _ w ⟨rfl, hs⟩; refine zA6 (zA4 (zA2 (J7 rfl (J7 rfl (Qg en13 (man21_sl hs (id := 2) (x := dx) (y := dy) (by decide) (hx.rd _) (hy.rd _) (by omega) (by omega) (two2.mf (by omega) (by omega))) ?_))))); clear hs; rintro _ w ⟨s1, s2, rfl, hs⟩; refine zBj hs rfl ze39 ?_; clear hs; intro b15 w hs
      try simp only [zzs, zzz] at hs
      refine zAr hs 0 rfl rfl rfl zEt rfl rfl ?_; clear hs; intro w hs
      try simp only [zzs, zzz] at hs
      refine zA6 (zA4 (zA4 ?_)); have hmm := two2.mf (x := dx) (y := dy) (by omega) (by omega); have hF := two2.fr (x := dx) (y := dy) (by omega) (by omega); replace hs : Mem g w (zB8 sp { St.empty with script := outs } :: zB9 d0 (Dk.empty 262144) :: cells b15 (mfL (zC7 2 dx dy) s1 s2) 39 :: zE0 2 (.slice s1.1 (zC7 2 dx dy).eps.length s1.2) ((zC7 2 dx dy).eps.map prL) :: zE0 3 (.slice s2.1 (zC7 2 dx dy).obs.length s2.2) ((zC7 2 dx dy).obs.map obL) :: []) := hs.arr [3, 4, 0, 1, 2] 5 (by decide); refine zA2 (J4 rfl (zA6 (zAp ?_)))
      refine zBs (X := Nat) [10, 16, 17, 18, 19, 20, 21, 22, 23, 70, 71, 72, 73, 74, 75, 76, 77, 78, 79, 80, 81, 82, 83, 84, 85, 86, 87, 88, 89, 90, 91, 92, 93, 94, 95, 96, 97, 98, 99, 100, 101, 102, 103, 104, 105, 106, 107, 108, 109, 110, 111, 112, 113, 114, 115, 116, 117, 118, 119, 120, 121, 122, 123, 124, 125, 126, 127, 128, 129, 130, 131, 132, 133, 134, 135, 136, 137, 138, 139, 140, 141, 142, 143, 144, 145, 146, 147, 148, 149, 150, 151, 152, 153, 154, 155, 156, 157, 158, 159, 160, 161, 162, 163, 164, 165, 166, 167, 168, 169, 170, 171, 172, 173, 174, 175, 176, 177, 178, 179, 180, 181, 182, 183] (fun k => [(16, .int .i64 (k : Nat))]) (fun k w => k ≤ arms.length ∧ ∃ st dk f, ((f = (fun _ => none) ∧ PIn (zG4 2 dx dy) [] st) ∨ DskO (zG4 2 dx dy) (zC7 2 dx dy) (e0 + 1) (zG4 2 dx dy) st f) ∧ RawI UpN 20000 f dk ∧ dk.armed = 0 ∧ dk.room = 262144 ∧ st.script.length ≤ 40 ∧ Bnd (40000 * k + 10) 0 st dk ∧ Mem g w (zB8 sp st :: zB9 d0 dk :: cells b15 (mfL (zC7 2 dx dy) s1 s2) 39 :: zE0 2 (.slice s1.1 (zC7 2 dx dy).eps.length s1.2) ((zC7 2 dx dy).eps.map prL) :: zE0 3 (.slice s2.1 (zC7 2 dx dy).obs.length s2.2) ((zC7 2 dx dy).obs.map obL) :: [])) (fun k => arms.length - k) (0) ?_ ?_ ?_
      · exact ⟨rfl, trivial⟩
      · exact ⟨Nat.zero_le _, _, _, _, .inl ⟨rfl, PIn.empty outs⟩, RawI.start (by decide), rfl, rfl, by show outs.length ≤ 40; omega, ⟨Nat.zero_le _, Nat.zero_le _, Nat.zero_le _, Nat.zero_le _, by decide⟩, hs⟩
      clear hs; rintro x ξ w hI; obtain ⟨hk, st, dk, f, hD, hRI, har, hrm, hsc, hB, hs⟩ := hI; generalize x = k at *; refine zA4 (zA4 (zA2 (J0 rfl (J7 rfl (Js uz74 rfl (Qa (zE8 rfl rfl) (zA6 (zBc rfl ((decide_eq_true (show (k : Int) ≤ (arms.length : Nat) by omega))) (zAd (zA4 (zAp ?_))))))))))); refine zA4 (zA2 (J1 rfl (J1 rfl ?_)))
      refine Qg en12 (openD_sl hE.uM hE.uG hmm man21_sum hF (e := e0 + 1) (os := (zG4 2 dx dy)) (hs.arr [1, 0, 2, 3, 4] 5 (by decide)) hRI har hrm (by obtain ⟨_, _, _, _, b5⟩ := hB; omega) hD (tr := 2) (by decide)) ?_; clear hs; rintro _ w ⟨l, c0, dk2, s, n, f2, rfl, hc2, hO, hs⟩; refine Jc rfl (Ju (v := .pointer (some _)) rfl rfl (Ju (v := .pointer (some _)) rfl rfl (Jd rfl (Jd rfl (zA6 (zA4 (zA4 (zA2 (J1 rfl (Qa (zDj uz32 rfl rfl) ?_))))))))))
      refine zA6 (zAz rfl (rfl) (zAd (zA4 (zA4 (zA2 (J1 rfl (Qg en19 (zG5 (hs.arr [1, 0, 2, 3, 4, 5, 6] 7 (by decide))) ?_))))))); clear hs; rintro _ w ⟨v85, rfl, hs⟩; refine Qg en20 (zF6 hs 2) ?_; clear hs; rintro _ w ⟨rfl, hs⟩; obtain ⟨hs2, hnn, hRI2, har2, hrm2, hfn2, hfm2, hp2, hcase2⟩ := hO; have hst2 : Vw.state (vwU (zC7 2 dx dy) s) 2 = s := vwU_state (zC7 2 dx dy) hs2; refine Jw rfl rfl (zA6 (zB2 rfl ?_ ?_))
      ·
       intro h87; have g87 := of_decide_eq_true h87; have h88 := of_decide_eq_true h87; rw [hst2] at h88
       obtain rfl : s = 2 := by omega
       refine zA4 (zA2 (J1 rfl (Qa (zBd hs 5 rfl zCp zEt rfl) (J7 rfl (J7 rfl ?_)))))
       refine Qg en18 (laid_sl (hs.arr [4, 0, 1, 2, 3, 5, 6, 7] 8 (by decide)) hp2.small (x := dx) (y := dy) (m := zC7 2 dx dy) (e := s1) (o := s2) (MfR.own 5 6 rfl rfl) rfl rfl (hcase2.elim (fun h => by cases h.1) (fun h => h.elim (fun h => by cases h.1) fun h => h.2 (zDu 2 zGd 10, dx) (by simp [zG4]))) (hcase2.elim (fun h => by cases h.1) (fun h => h.elim (fun h => by cases h.1) fun h => h.2 (zDu 2 zEv 10, dy) (by simp [zG4]))) (hx.rd _) (hy.rd _) (by omega) (by omega)) ?_; clear hs; rintro _ w ⟨rfl, hs⟩; exact J5 rfl (zA6 (zAe (zBi (v := .bool _) rfl rfl ⟨_, rfl, rfl, hs.nil⟩)))
      ·
       intro h87; have g87 := of_decide_eq_false h87; have h88 := of_decide_eq_false h87; rw [hst2] at h88
       have hs1 : s ≤ 1 := by omega
       obtain ⟨is2, z2, hj2, hz2⟩ := hRI2.jany up_up; refine zAd (zA4 (zA2 (J1 rfl (J1 rfl (J1 rfl (J0 rfl (Qa (zBd hs 5 rfl zCp zEt rfl) (J7 rfl (J7 rfl (zB4 hs rfl ([bV (dx, (a0, c)), bV (dy, (b, d))]) uz62 zs22 rfl (two_all rfl rfl) rfl rfl rfl ?_)))))))))); clear hs; intro b101 w hs
       try simp only [zzs, zzz] at hs
       refine Qg en15 (upNew_sl hE (hs.arr [2, 4, 0, 3, 5, 6, 7, 8] 9 (by decide)) (each := ((e0 + 1 : Nat) : Int)) (inI (by omega) (by omega)) (m := zC7 2 dx dy) (e := s1) (o := s2) (MfR.own 4 5 rfl rfl) (show 2 ≤ 1000000 by decide) (fun _ => show 1 ≤ 1000000 by decide) (bl := [(dx, (a0, c)), (dy, (b, d))]) (Rd.cells 0 rfl rfl) (two_all (hx.rd _) (hy.rd _)) (two_all (show dx.length ≤ 1048576 by omega) (show dy.length ≤ 1048576 by omega)) (is := is2) (z := z2) hj2 hz2) ?_; clear hs; rintro _ w hN
       obtain ⟨u, t1, t2, xs, s3, s4, a, rfl, hxs, hga, hs⟩ := hN.go (two2.up (by omega) (by omega) (by omega)) hs1 hj2 hRI2 (os := (zG4 2 dx dy)) rfl (hcase2.imp id fun h => h.resolve_right fun h => by omega); refine Jc rfl (Ju (v := .pointer (some _)) rfl rfl (Jk rfl rfl (Jd rfl (J3 rfl (zA6 (zA4 (zA4 (zA2 (J1 rfl (Qa (zDj uz47 rfl rfl) (J2 rfl ?_))))))))))); refine zAl rfl rfl (rfl) ?_
       refine Jj rfl (zAl rfl rfl (rfl) (Jz rfl (J9 rfl (rfl) rfl (zA6 (zAz rfl (rfl) (zAd ?_))))))
       refine cw_mid (X := Nat) [111, 112, 113, 114, 115, 116, 117, 118, 119, 120, 121, 122] (fun _ => []) (fun x w => (k = arms.length → x = 0) ∧ Mem g w (UpC u ⟨d0, l, c0, zC7 2 dx dy, t1, t2, e0 + 1, xs, s3, s4⟩ a false :: zBh c0 sp ((1 + 1 : Nat) : Int) (0 : Nat) :: zB8 sp st :: zDs l d0 3 (vwU (zC7 2 dx dy) s) s s n :: zB9 d0 { dk2 with armed := x } :: cells b15 (mfL (zC7 2 dx dy) s1 s2) 39 :: zE0 2 (.slice s1.1 (zC7 2 dx dy).eps.length s1.2) ((zC7 2 dx dy).eps.map prL) :: zE0 3 (.slice s2.1 (zC7 2 dx dy).obs.length s2.2) ((zC7 2 dx dy).obs.map obL) :: [])) ?_ ?_
       ·
        refine zA4 ?_; replace hs : Mem g w (UpC u ⟨d0, l, c0, zC7 2 dx dy, t1, t2, e0 + 1, xs, s3, s4⟩ a false :: zBh c0 sp ((1 + 1 : Nat) : Int) (0 : Nat) :: zB8 sp st :: zDs l d0 3 (vwU (zC7 2 dx dy) s) s s n :: zB9 d0 dk2 :: cells b15 (mfL (zC7 2 dx dy) s1 s2) 39 :: zE0 2 (.slice s1.1 (zC7 2 dx dy).eps.length s1.2) ((zC7 2 dx dy).eps.map prL) :: zE0 3 (.slice s2.1 (zC7 2 dx dy).obs.length s2.2) ((zC7 2 dx dy).obs.map obL) :: []) := hs.arr [0, 4, 5, 1, 2, 6, 7, 8] 9 (by decide); refine zA2 (J0 rfl (J7 rfl (Js uz74 rfl (Jn rfl rfl (zA6 ?_)))))
        refine zB2 rfl ?_ ?_
        ·
         intro h114; have g114 := of_decide_eq_true h114
         have hkl : k < arms.length := by omega
         obtain ⟨z, hzk⟩ : ∃ z, arms[k]? = some z := ⟨_, List.getElem?_eq_getElem hkl⟩; obtain ⟨bz, oz, rfl, _⟩ := (hz.rd []).cells' hs.nil (by rw [zG]; omega); refine zA2 (J1 rfl (J7 rfl (J0 rfl (Qa (zB5 uz74 sz3 rfl rfl rfl (by omega) rfl) (Jq uz3 rfl rfl ((hz.rd []).cellAt hs.nil (zFn hzk)) (Qg en9 (number_sl hs _ _ (by decide)) ?_)))))); clear hs; rintro _ w ⟨pk, hpk, rfl, hs⟩; refine Jo rfl rfl (c := ((pk + 1 : Nat) : Int)) (by omega) (inI (by omega) (by omega)) ?_
         refine Qg en36 (arm_sl (hs.arr [4, 0, 1, 2, 3, 5, 6, 7] 8 (by decide)) (pk + 1) (by omega)) ?_; clear hs; rintro _ w ⟨rfl, hs⟩; refine zA6 ?_; exact ⟨pk + 1, ⟨fun h => by omega, hs.arr [1, 2, 3, 4, 0, 5, 6, 7] 8 (by decide)⟩, trivial, by repeat (first | with_reducible exact Out.refl _ _ | refine Out.updo rfl ?_ | refine Out.upd rfl ?_ | refine Out.mixIn rfl ?_)⟩
        ·
         intro h114; have g114 := of_decide_eq_false h114; refine zAd ?_; exact ⟨0, ⟨fun _ => rfl, by rw [armed_zero har2]; exact hs⟩, trivial, by repeat (first | with_reducible exact Out.refl _ _ | refine Out.updo rfl ?_ | refine Out.upd rfl ?_ | refine Out.mixIn rfl ?_)⟩
       ·
        clear hs; rintro x ξ w hI; obtain ⟨hx0, hs⟩ := hI; generalize x = am at hx0 hs; have hok : ({ dk2 with armed := am } : Dk).ok := ((hs.arr [4] 8 (by decide)).openD).1; have hRI3 := hRI2.arm hok; have hU : UpOk (zG4 2 dx dy) ⟨d0, l, c0, zC7 2 dx dy, t1, t2, e0 + 1, xs, s3, s4⟩ := two2.upOk (by omega) (by omega) (by omega) hxs (two2.osF (by omega) (by omega)) (fun o h => h); have hosu : osU (⟨d0, l, c0, zC7 2 dx dy, t1, t2, e0 + 1, xs, s3, s4⟩ : UpT) = (zG4 2 dx dy) := two_osU hxs
        obtain ⟨M0, hGI⟩ : ∃ M0, GoI (zG4 2 dx dy) ⟨d0, l, c0, zC7 2 dx dy, t1, t2, e0 + 1, xs, s3, s4⟩ s a (vwU (zC7 2 dx dy) s) s s n { dk2 with armed := am } st M0 := by rcases hga with ⟨h1, h2, h3⟩ | ⟨h1, h2, M, h3⟩; exact ⟨_, rfl, rfl, rfl, hnn, hrm2, f2, hRI3, hfn2, hfm2, .inl ⟨h1, h2, h3, hp2, rfl⟩⟩; exact ⟨M + 1, rfl, rfl, rfl, hnn, hrm2, f2, hRI3, hfn2, hfm2, .inr ⟨h1, h2, M, by rw [hosu]; exact h3, rfl⟩⟩
        have hleft := hGI.left hU
        have hBB : Bnd (40000 * k + 20) 0 st { dk2 with armed := am } := by obtain ⟨b1, b2, b3, b4, b5⟩ := hB; exact ⟨by omega, by omega, by omega, by omega, by show dk2.calls ≤ _; omega⟩
        refine zA4 (zA4 (zA2 (J4 rfl (zA6 (zAp ?_)))))
        refine zBs (X := Nat) [10, 21, 22, 23, 123, 124, 125, 126, 127, 128, 129, 130, 131, 132, 133, 134, 135, 136, 137, 138, 139, 140, 141, 142, 143, 144, 145, 146, 147, 148, 149, 150, 151, 152, 153, 154, 155, 156, 157, 158] (fun i => [(21, .int .i64 (i : Nat))]) (fun i w => i ≤ 780 ∧ ((∃ ak s a V q c' n dk st M, GoI (zG4 2 dx dy) ⟨d0, l, c0, zC7 2 dx dy, t1, t2, e0 + 1, xs, s3, s4⟩ s a V q c' n dk st M ∧ i + uLeft s st M ≤ 760 ∧ Bnd (40000 * k + 20 + 50 * i) ak st dk ∧ st.script.length ≤ 40 ∧ (k = arms.length → dk.armed = 0) ∧ Mem g w (UpC u ⟨d0, l, c0, zC7 2 dx dy, t1, t2, e0 + 1, xs, s3, s4⟩ a false :: zBh c0 sp ((1 + 1 : Nat) : Int) (ak : Nat) :: zB8 sp st :: zDs l d0 3 V q c' n :: zB9 d0 dk :: cells b15 (mfL (zC7 2 dx dy) s1 s2) 39 :: zE0 2 (.slice s1.1 (zC7 2 dx dy).eps.length s1.2) ((zC7 2 dx dy).eps.map prL) :: zE0 3 (.slice s2.1 (zC7 2 dx dy).obs.length s2.2) ((zC7 2 dx dy).obs.map obL) :: [])) ∨ (∃ dk st, DnI (zG4 2 dx dy) ⟨d0, l, c0, zC7 2 dx dy, t1, t2, e0 + 1, xs, s3, s4⟩ st dk ∧ dk.room = 262144 ∧ k < arms.length ∧ st.script.length ≤ 40 ∧ Bnd (40000 * k + 20 + 50 * i) 0 st dk ∧ Mem g w (zB8 sp st :: zB9 d0 dk :: cells b15 (mfL (zC7 2 dx dy) s1 s2) 39 :: zE0 2 (.slice s1.1 (zC7 2 dx dy).eps.length s1.2) ((zC7 2 dx dy).eps.map prL) :: zE0 3 (.slice s2.1 (zC7 2 dx dy).obs.length s2.2) ((zC7 2 dx dy).obs.map obL) :: [])))) (fun i => 1000 - i) (0) ?_ ?_ ?_
        · exact ⟨rfl, trivial⟩
        · exact ⟨by omega, .inl ⟨0, s, a, _, s, s, n, _, st, M0, hGI, by omega, hBB, hsc, hx0, hs⟩⟩
        clear hs; rintro x ξ w hI; obtain ⟨hi, hI⟩ := hI; refine zA4 (zA4 ?_)
        rcases hI with ⟨ak, s, a, V, q, c', n, dk, st, M, hG, hle, hB, hsc, har, hs⟩ | ⟨dk, st, hD, hrm, hkl, hsc, hB, hs⟩
        ·
         refine zA2 (J0 rfl (Jn rfl rfl (J2 rfl (zAl rfl rfl ((decide_eq_true (show (x : Int) < 1000 by omega))) (J1 rfl (zAl rfl rfl ((decide_eq_true (show (x : Int) < 1000 by omega))) (Qg en37 (down_sl (hs.arr [4, 0, 1, 2, 3, 5, 6, 7] 8 (by decide))) ?_))))))); clear hs; rintro _ w ⟨rfl, hs⟩; refine zAl rfl rfl ((decide_eq_true (show (x : Int) < 1000 by omega))) (Jr rfl (Ja rfl ((decide_eq_true (show (x : Int) < 1000 by omega))) rfl (zA6 ?_)))
         refine zBc rfl (zCs (hG.down)) (zAd (zA4 (zAp (zA4 (zA2 (J1 rfl (Qg en16 (goStep3 hE hU hmm man21_sum (show 2 ≤ 1000000 by decide) hF hG hB (by omega) (tr := 1) (by omega) (hs.arr [1, 2, 3, 4, 0, 5, 6, 7] 8 (by decide))) ?_))))))); clear hs; rintro _ w (⟨y, dk4, st4, ak4, s5, a4, V4, q4, c4, n4, M4, rfl, hy4, hB4, hG4, hlt4, hsl4, har4, hs⟩ | ⟨st4, rfl, hp4, hob4, hs⟩ | ⟨y, dk4, st4, ak4, rfl, hB4, hD4, hrm4, hsl4, har4, hs⟩)
         ·
          refine Jc rfl (Ju (v := .bool _) rfl rfl (Jg rfl rfl (J5 rfl (J6 rfl (zA6 (zA4 (zA4 (zA2 (J2 rfl (zA6 (zAz rfl (rfl) ?_))))))))))); refine zAd (zA4 (zA2 (J8 rfl (Jv (ad := ad) rfl (J2 rfl (zB3 (t := _) (d := 149) rfl ?_ ?_))))))
          ·
           intro h148; have g148 := zFj h148
           obtain rfl : 111 = y := by rcases hy4 with h | h; exact absurd h g148; exact h.symm
           refine zAl rfl rfl h148 (J1 rfl (zAl rfl rfl h148 (Qg en37 (down_sl (hs.arr [4, 0, 1, 2, 3, 5, 6, 7] 8 (by decide))) ?_))); clear hs; rintro _ w ⟨rfl, hs⟩; refine zAl rfl rfl h148 (Jr rfl (Ja rfl h148 rfl (J2 rfl (zAl rfl rfl (zCs (hG4.down)) (J8 rfl (zAl rfl rfl (zCs (hG4.down)) (Qg en34 (isA_sl hA hs (d := 111) (.inr (by decide)) _) ?_))))))); clear hs; rintro _ w ⟨rfl, hs⟩; refine zAl rfl rfl (zCs (hG4.down)) (Jr rfl ?_)
           refine Ja rfl (zCs (hG4.down)) rfl (zA6 (zAz rfl (zBt (decide_eq_true rfl)) (zAd (zA2 (J0 rfl (Jo rfl rfl rfl (inI (by omega) (by omega)) (J4 rfl (zA6 ?_)))))))); exact ⟨x + 1, by omega, ⟨by omega, .inl ⟨ak4, s5, a4, V4, q4, c4, n4, dk4, st4, M4, hG4, by omega, hB4.up (by omega), by omega, fun h => har4 (har h), hs.arr [1, 2, 3, 4, 0, 5, 6, 7] 8 (by decide)⟩⟩, ⟨rfl, trivial⟩, by repeat (first | exact Out.mix _ _ _ | refine Out.updo rfl ?_ | refine Out.upd rfl ?_ | refine Out.mixIn rfl ?_)⟩
          ·
           intro h148; have g148 := zFi h148; refine Qe rfl rfl h148 (Qe rfl rfl h148 (Qe rfl rfl h148 (J9 rfl h148 rfl (J2 rfl (Qe rfl rfl rfl (Qe rfl rfl rfl (Qe rfl rfl rfl (J9 rfl rfl rfl (zA6 (zAz rfl rfl ?_)))))))))); refine zAd (zA2 (J0 rfl (Jo rfl rfl rfl (inI (by omega) (by omega)) (J4 rfl (zA6 ?_)))))
           exact ⟨x + 1, by omega, ⟨by omega, .inl ⟨ak4, s5, a4, V4, q4, c4, n4, dk4, st4, M4, hG4, by omega, hB4.up (by omega), by omega, fun h => har4 (har h), hs⟩⟩, ⟨rfl, trivial⟩, by repeat (first | exact Out.mix _ _ _ | refine Out.updo rfl ?_ | refine Out.upd rfl ?_ | refine Out.mixIn rfl ?_)⟩
         ·
          refine Jc rfl (Ju (v := .bool _) rfl rfl (Jg rfl rfl (J5 rfl (J6 rfl (zA6 (zA4 (zA4 (zA2 (J2 rfl (zA6 (zBc rfl (rfl) ?_))))))))))); refine zA4 (zA2 (J8 rfl (Qa (zDl (ad := ad) rfl) (J2 rfl (zAl rfl rfl (rfl) (J1 rfl (zAl rfl rfl (rfl) (Qa (zBd hs 1 rfl zCp zEt rfl) ?_))))))))
          refine zAl rfl rfl (rfl) (J7 rfl (zAl rfl rfl (rfl) (J7 rfl (zAl rfl rfl (rfl) (Qg en18 (laid_sl hs hp4.small (x := dx) (y := dy) (m := zC7 2 dx dy) (e := s1) (o := s2) (MfR.own 1 2 rfl rfl) rfl rfl (hob4 (zDu 2 zGd 10, dx) (by rw [hosu]; simp [zG4])) (hob4 (zDu 2 zEv 10, dy) (by rw [hosu]; simp [zG4])) (hx.rd _) (hy.rd _) (by omega) (by omega)) ?_))))); clear hs; rintro _ w ⟨rfl, hs⟩; refine Ja rfl (rfl) rfl (J5 rfl (zA6 (zAe (zBi (v := .bool _) rfl rfl ?_))))
          exact ⟨_, rfl, rfl, hs.nil⟩
         ·
          refine Jc rfl (Ju (v := .bool _) rfl rfl (Jg rfl rfl (J5 rfl (J6 rfl (zA6 (zA4 (zA4 (zA2 (J2 rfl (zA6 (zAz rfl (rfl) ?_))))))))))); refine zAd (zA4 (zA2 (J8 rfl (Jv (ad := ad) rfl (J2 rfl (zB3 (t := _) (d := 149) rfl ?_ ?_))))))
          ·
           intro h148; have g148 := zFj h148; refine zAl rfl rfl h148 (J1 rfl (zAl rfl rfl h148 (Qg en37 (down_sl (hs.arr [1, 0, 2, 3, 4] 5 (by decide))) ?_))); clear hs; rintro _ w ⟨rfl, hs⟩; refine zAl rfl rfl h148 (Jr rfl (Ja rfl h148 rfl (J2 rfl (Qe rfl rfl (zBt (hD4.1)) (Qe rfl rfl (zBt (hD4.1)) (Qe rfl rfl (zBt (hD4.1)) (J9 rfl (zBt (hD4.1)) rfl (zA6 (zAz rfl rfl (zAd ?_)))))))))); refine zA2 ?_
           refine J0 rfl (Jo rfl rfl rfl (inI (by omega) (by omega)) (J4 rfl (zA6 ?_))); exact ⟨x + 1, by omega, ⟨by omega, .inr ⟨dk4, st4, hD4, hrm4, (by by_cases hh : k = arms.length; exact absurd (har hh) har4; omega), by omega, (hB4.up (by omega)).anew, hs.arr [1, 0, 2, 3, 4] 5 (by decide)⟩⟩, ⟨rfl, trivial⟩, by repeat (first | exact Out.mix _ _ _ | refine Out.updo rfl ?_ | refine Out.upd rfl ?_ | refine Out.mixIn rfl ?_)⟩
          ·
           intro h148; have g148 := zFi h148; refine Qe rfl rfl h148 (Qe rfl rfl h148 (Qe rfl rfl h148 (J9 rfl h148 rfl (J2 rfl (Qe rfl rfl rfl (Qe rfl rfl rfl (Qe rfl rfl rfl (J9 rfl rfl rfl (zA6 (zAz rfl rfl ?_)))))))))); refine zAd (zA2 (J0 rfl (Jo rfl rfl rfl (inI (by omega) (by omega)) (J4 rfl (zA6 ?_)))))
           exact ⟨x + 1, by omega, ⟨by omega, .inr ⟨dk4, st4, hD4, hrm4, (by by_cases hh : k = arms.length; exact absurd (har hh) har4; omega), by omega, (hB4.up (by omega)).anew, hs⟩⟩, ⟨rfl, trivial⟩, by repeat (first | exact Out.mix _ _ _ | refine Out.updo rfl ?_ | refine Out.upd rfl ?_ | refine Out.mixIn rfl ?_)⟩
        ·
         refine zA2 (J0 rfl (Jn rfl rfl (J2 rfl (zAl rfl rfl ((decide_eq_true (show (x : Int) < 1000 by omega))) (J1 rfl (zAl rfl rfl ((decide_eq_true (show (x : Int) < 1000 by omega))) (Qg en37 (down_sl (hs.arr [1, 0, 2, 3, 4] 5 (by decide))) ?_))))))); clear hs; rintro _ w ⟨rfl, hs⟩; refine zAl rfl rfl ((decide_eq_true (show (x : Int) < 1000 by omega))) (Jr rfl (Ja rfl ((decide_eq_true (show (x : Int) < 1000 by omega))) rfl (zA6 ?_)))
         refine zAz rfl (zBt (hD.1)) (zBm rfl (zA4 (zA4 (zA2 (J1 rfl (Qg en37 (down_sl hs) ?_)))))); clear hs; rintro _ w ⟨rfl, hs⟩; refine Jr rfl (zA6 (zAz rfl (zBt (hD.1)) (zAd ?_))); obtain ⟨z, hzk⟩ : ∃ z, arms[k]? = some z := ⟨_, List.getElem?_eq_getElem hkl⟩; obtain ⟨bz, oz, rfl, _⟩ := (hz.rd []).cells' hs.nil (by rw [zG]; omega); refine zAq zBk (hs.suffix 1 rfl) ?_; intro w tr hK; replace hs := tr _ hs; clear tr; refine Q0 0 rfl rfl hK (Q3 1 rfl rfl hK ?_)
         refine Q2 2 rfl rfl hK (Qb 3 rfl (fun w hs => zB5 uz74 sz3 rfl rfl rfl (by omega) rfl) hK (Qd 4 rfl uz3 rfl (fun w hs => (hz.rd []).cellAt hs.nil (zFn hzk)) hK (Qb 5 rfl (fun w hs => run_quo rfl rfl (by decide)) hK (Q3 6 rfl rfl hK (Q2 7 rfl rfl hK (Qb 8 rfl (fun w hs => zB5 uz74 sz3 rfl rfl rfl (by omega) rfl) hK (Qd 9 rfl uz3 rfl (fun w hs => (hz.rd []).cellAt hs.nil (zFn hzk)) hK ?_)))))))
         refine Qb 10 rfl (fun w hs => run_quo rfl rfl (by decide)) hK (Q3 11 rfl rfl hK (Q2 12 rfl rfl hK (Qb 13 rfl (fun w hs => zB5 uz74 sz3 rfl rfl rfl (by omega) rfl) hK (Qd 14 rfl uz3 rfl (fun w hs => (hz.rd []).cellAt hs.nil (zFn hzk)) hK (Qb 15 rfl (fun w hs => run_quo rfl rfl (by decide)) hK (Q3 16 rfl rfl hK (Q2 17 rfl rfl hK ?_)))))))
         refine Qb 18 rfl (fun w hs => zB5 uz74 sz3 rfl rfl rfl (by omega) rfl) hK (Qd 19 rfl uz3 rfl (fun w hs => (hz.rd []).cellAt hs.nil (zFn hzk)) hK (zAc [20] ⟨⟨_, rfl, ?_⟩, trivial⟩)); refine zB4 hs rfl ((zCz [IntKind.i64.wrap (z.tdiv 40), IntKind.i64.wrap (z.tdiv 7), IntKind.i64.wrap (z.tdiv 3), z])) uz74 zs3 rfl (ints_cells _) rfl rfl rfl ?_; clear hs; intro b182 w hs
         try simp only [zzs, zzz] at hs
         clear hK; have hK := hs.suffix 2 rfl; refine zA6 ⟨hK, ?_⟩; refine zAc [21] ⟨⟨_, rfl, ?_⟩, trivial⟩; refine Qg en38 (crash_sl (hs.arr [1, 0, 2, 3, 4, 5] 6 (by decide)) (by obtain ⟨_, _, _, _, b5⟩ := hB; omega) (picks := [IntKind.i64.wrap (z.tdiv 40), IntKind.i64.wrap (z.tdiv 7), IntKind.i64.wrap (z.tdiv 3), z]) (Rd.cells 0 rfl rfl) rfl (show 4 ≤ 1000000000 by decide)) ?_; clear hs; rintro _ w ⟨rfl, hs⟩; clear hK; have hK := hs.suffix 2 rfl; refine zA6 ⟨hK, ?_⟩; refine zAs (by kernel_rfl) ?_; clear hK; refine zA2 (J0 rfl (Jo rfl rfl rfl (inI (by omega) (by omega)) ?_))
         refine J4 rfl (zA6 ?_); obtain ⟨f', h1, h2⟩ := hD.2 [IntKind.i64.wrap (z.tdiv 40), IntKind.i64.wrap (z.tdiv 7), IntKind.i64.wrap (z.tdiv 3), z]
         have h3 : DskO (zG4 2 dx dy) (zC7 2 dx dy) (e0 + 1) (zG4 2 dx dy) st f' := by have h4 := h2; unfold DskI at h4; rw [hosu] at h4; exact h4
         exact ⟨k + 1, by omega, ⟨by omega, st, _, f', .inr h3, h1, rfl, hrm, hsc, (hB.up (cb' := 40000 * (k + 1) + 10) (by omega)), hs.arr [2, 0, 3, 4, 5] 6 (by decide)⟩, ⟨rfl, trivial⟩, by repeat (first | exact Out.mix _ _ _ | refine Out.updo rfl ?_ | refine Out.upd rfl ?_ | refine Out.mixIn rfl ?_)⟩
end
end Go.Proofs.YthejaanobeonnaaGreatDoor
