/- An upload: what fits; one thing of the object at hand. A step of an upload, with what it calls left open. The objects of an upload, one behind the other: what is left. A step of an upload: what it leaves. An upload is begun: up.New, whatever comes in. up.New. The document's Make; the manifests of the statements. Sweeps: the views of the statements, orphans. An upload's log where it is new: what it answers. What the statements make: manifests with blobs, a log and a client. Small functions of the statements: Number, SameBytes. The statements' own: laid, ends, the examples. The statements' manifests: two objects. The remote log's file is read: entries, for any names. -/
import Derived.Test.YthejaanobeonnaaGreatDoorGo6
import Derived.Test.YthejaanobeonnaaGreatDoorGo5
import Derived.Test.YthejaanobeonnaaGreatDoorGo2
import Derived.Test.YthejaanobeonnaaGreatDoorGo4
set_option linter.all false
namespace Go.Proofs.YthejaanobeonnaaGreatDoor
section
open Go.RowKit
attribute [local irreducible] zAk eV
variable {g w : World} {L M : List HP} {ad : Nat → Addr} {p u : Nat} {dk : Dk} {st : St}
def upCodes : List Nat := [101, 102, 103, 104, 105, 106, 107, 108, 109, 110, 111, 112, 113]
abbrev ErrU (ad : Nat → Addr) (g : World) : Prop := Errs upCodes ad g.heap.size g
theorem Errs.uV (h : ErrU ad g) : ErrV ad g := Errs.sub h (fun c hc => by simp only [viewCodes, upCodes, List.mem_cons, List.not_mem_nil, or_false] at *; omega)
theorem Errs.uK (h : ErrU ad g) : ErrK ad g := Errs.sub h (fun c hc => by simp only [zFy, upCodes, List.mem_cons, List.not_mem_nil, or_false] at *; omega)
theorem Errs.uM (h : ErrU ad g) : ErrM ad g := Errs.sub h (fun c hc => by simp only [zGl, upCodes, List.mem_cons, List.not_mem_nil, or_false] at *; omega)
theorem Errs.uG (h : ErrU ad g) : ErrG ad g := Errs.sub h (fun c hc => by simp only [zCb, upCodes, List.mem_cons, List.not_mem_nil, or_false] at *; omega)
theorem Errs.uJ (h : ErrU ad g) : ErrJ ad g := Errs.sub h (fun c hc => by simp only [jourCodes, upCodes, List.mem_cons, List.not_mem_nil, or_false] at *; omega)
set_option maxHeartbeats 1000000 in
theorem object_sl (hE : ErrU ad g) {t : UpT} {id : Int} {k done tr ak : Nat} {x : List UInt8 × SA} {o : Ob} (hx : t.xs[k]? = some x) (ho : t.m.obs[k]? = some o) {R : Int → Nat → Bool → Nat → St → Nat → Prop}
    (hP : ∀ {w : World} {M : List HP} {ba : Option Addr} {c : Nat}, Mem g w (zBh t.c p ((tr : Nat) : Int) ((ak : Nat) : Int) :: zB8 p st :: M) → Rd g M (.slice ba x.1.length c) (zAn x.1) → Calls Tryz.prog 99 #[.pointer (some ⟨t.c, 0, none⟩), .agg (zEx t.each o x.1).toArray, .slice ba x.1.length c, .int .i64 id, .int .i64 (done : Nat)] w (Ret fun v w' => ∃ (id' : Int) (done' : Nat) (is : Bool) (y : Nat) (st' : St) (a' : Nat), v = .tuple #[.int .i64 id', .int .i64 (done' : Nat), .bool is, zAk ad y] ∧ R id' done' is y st' a' ∧ Mem g w' (zBh t.c p ((tr : Nat) : Int) ((a' : Nat) : Int) :: zB8 p st' :: M)))
    (hRc : ∀ id' done' is y st' a', R id' done' is y st' a' → (y = 0 ∨ y = 111) ∧ (is = false → 0 ≤ id' ∧ id' ≤ 2147483647 ∧ done' ≤ 2147483647))
    (hid : 0 ≤ t.m.id ∧ t.m.id ≤ 2147483647) (hk : k < 1000) (hcl : dk.calls < 900000)
    {J : S4 → Nat → Dk → Prop} (hJ : ∀ s : S4, (s4L s).all inR = true → ∃ j e, dk.jwrite (s4L s) = (j, e) ∧ (j = 0 ∨ j = 110) ∧ J s j e)
    (hs : Mem g w (UpC u t (t.m.id, (k : Int), id, (done : Int)) false :: zBh t.c p ((tr : Nat) : Int) ((ak : Nat) : Int) :: zB8 p st :: zB9 t.d dk :: L)) :
    Calls Tryz.prog 53 #[.pointer (some ⟨u, 0, none⟩)] w (Ret fun v w' => ∃ (id' : Int) (done' : Nat) (is : Bool) (y : Nat) (st' : St) (a' : Nat), R id' done' is y st' a' ∧
      ((y ≠ 0 ∧ v = zAk ad y ∧ Mem g w' (UpC u t (t.m.id, (k : Int), id, (done : Int)) false :: zBh t.c p ((tr : Nat) : Int) ((a' : Nat) : Int) :: zB8 p st' :: zB9 t.d dk :: L)) ∨
       (y = 0 ∧ ∃ s j e, s = (if is = true then ((t.m.id, ((k + 1 : Nat) : Int), 0, 0) : S4) else (t.m.id, (k : Int), id', (done' : Int))) ∧ J s j e ∧ dk.jwrite (s4L s) = (j, e) ∧ (s4L s).all inR = true ∧ v = zAk ad j ∧ Mem g w' (UpC u t (if j = 0 then s else (t.m.id, (k : Int), id, (done : Int))) false :: zBh t.c p ((tr : Nat) : Int) ((a' : Nat) : Int) :: zB8 p st' :: zB9 t.d e :: L)))) := by
  obtain ⟨td, tl, tc, tm, s1, s2, te, xs, ⟨a3, c3⟩, ⟨a4, c4⟩⟩ := t; simp only at hx ho hid hP; have hs := hs.openUp; simp only at hs; have hkx : k < xs.length := (List.getElem?_eq_some_iff.1 hx).1; have hko : k < tm.obs.length := (List.getElem?_eq_some_iff.1 ho).1; have hpl := plansL_at (each := te) ho hx; obtain ⟨bp, op, rfl⟩ := (RdK.row 4 rfl : RdK g _ 5 (.slice a4 xs.length c4) (zCo te tm.obs xs)).at hs (by rw [zCo, List.length_map, List.length_zip]; omega); obtain ⟨bb, ob, rfl, _⟩ := hs.ownCells 3 rfl (by rw [List.length_map]; omega)
  have hvb : (xs.map bV)[k]? = some (.slice x.2.1 x.1.length x.2.2) := by rw [List.getElem?_map, hx]; rfl
  refine zAh Tryz.func53 rfl rfl ?_
  refine zA4 (zA2 (J3 rfl (zA6 (zA4 (zA2 (J1 rfl (Jx rfl (Jp (o' := 11) zDf rfl zEa rfl rfl rfl (Qa (zCj hs 0 (s4V (tm.id, (k : Int), id, (done : Int))) rfl zDg zEa rfl rfl) (zBj hs rfl ze103 ?_)))))))))); clear hs; intro b3 w hs
  try simp only [zzs, zzz] at hs
  refine zAr hs 0 rfl rfl rfl zEa rfl rfl ?_; clear hs; intro w hs
  try simp only [zzs, zzz] at hs
  refine zA6 (zA4 (zA2 (Jp (o' := 1) zDg rfl sz3 rfl rfl rfl (Qc uz3 rfl hs 0 rfl rfl (J4 rfl (zA6 (zA4 (zAq zBk ((hs.drop 8).drop 7) ?_)))))))); intro w tr hK; replace hs := tr _ hs; clear tr; refine Q0 0 rfl rfl hK (Q7 1 rfl rfl hK (Q6 2 rfl (o' := 2) zDf rfl sz33 rfl rfl rfl hK (Qd 3 rfl uz33 rfl (fun w hs => hs.cellAt 1 rfl rfl) hK (Q0 4 rfl rfl hK ?_))))
  refine Q7 5 rfl rfl hK (Q6 6 rfl (o' := 10) zDf rfl sz104 rfl rfl rfl hK (Qd 7 rfl zDt rfl (fun w hs => hs.cellAt 1 rfl rfl) hK (Q2 8 rfl rfl hK (Qb 9 rfl (fun w hs => zAy zDt zGh rfl rfl rfl (by omega) rfl) hK (Qb 10 rfl (fun w hs => zDa (cs := zEx te o x.1) zEm zGh rfl (fun j v hj => (RdK.row (k := 5) (v := .slice (some ⟨bp, op, none⟩) xs.length c4) (rows := zCo te tm.obs xs) 5 rfl).cell hs hpl hj)) hK (Q0 11 rfl rfl hK ?_))))))
  refine Q7 12 rfl rfl hK (Q6 13 rfl (o' := 9) zDf rfl sz62 rfl rfl rfl hK (Qd 14 rfl uz62 rfl (fun w hs => hs.cellAt 1 rfl rfl) hK (Q2 15 rfl rfl hK (Qb 16 rfl (fun w hs => zB5 uz62 sz22 rfl rfl rfl (by omega) rfl) hK (Qd 17 rfl zC6 rfl (fun w hs => hs.ownAt 4 rfl hvb) hK (Q6 18 rfl (o' := 2) zDg rfl sz3 rfl rfl rfl hK (Qd 19 rfl uz3 rfl (fun w hs => hs.cellAt 0 rfl rfl) hK (Q6 20 rfl (o' := 3) zDg rfl sz3 rfl rfl rfl hK ?_))))))))
  refine Qd 21 rfl uz3 rfl (fun w hs => hs.cellAt 0 rfl rfl) hK (zAc [22] ⟨⟨_, rfl, ?_⟩, trivial⟩); refine Qg en99 (hP (hs.arr [7, 8, 0, 1, 2, 3, 4, 5, 6, 9] 10 (by decide)) (Rd.blob 6 rfl hx)) ?_; clear hs; rintro _ w ⟨id2, dn2, is2, y2, st2, a2, rfl, hR, hs⟩; clear hK; have hK := (hs.suffix 2 rfl); refine zA6 ⟨hK, ?_⟩; refine Q4 23 rfl (v := .tuple _) rfl hK (Q8 24 rfl (v := .int .i64 _) rfl rfl hK (Q8 25 rfl (v := .int .i64 _) rfl rfl hK (Q8 26 rfl (v := .bool _) rfl rfl hK ?_)))
  refine Q8 27 rfl (v := zAk ad _) rfl rfl hK (Q5 28 rfl (v := .int .i64 _) rfl hK (Q5 29 rfl (v := .int .i64 _) rfl hK (Q5 30 rfl (v := .bool _) rfl hK (Q1 31 rfl rfl hK (zAs (by kernel_rfl) ?_))))); clear hK; refine zA4 (zA4 (zA2 (J8 rfl (Jv (ad := ad) rfl (zA6 (zB2 rfl ?_ ?_))))))
  ·
   intro h45; have g45 := zFj h45; exact zA4 (zA2 (J8 rfl (J6 rfl (zA6 (zAe (zBi (v := zAk ad _) rfl rfl ⟨_, rfl, id2, dn2, is2, y2, st2, a2, hR, .inl ⟨g45, rfl, Mem.closeUp (hs.arr [3, 4, 5, 6, 7, 8, 0, 1, 9] 10 (by decide))⟩⟩))))))
  ·
   intro h45; have g45 := zFi h45
   have hy0 : y2 = 0 := by simpa using h45
   subst hy0; obtain ⟨hr1, hr2⟩ := hRc _ _ _ _ _ _ hR; refine zAd (zA4 (zA4 (zA2 (J0 rfl (J0 rfl (Jp (o' := 2) zDg rfl sz3 rfl rfl rfl (zB0 (v := .int .i64 _) hs 2 rfl sz3 rfl rfl rfl rfl ?_))))))); clear hs; intro w hs
   try simp only [zzs, zzz] at hs
   refine Jp (o' := 3) zDg rfl sz3 rfl rfl rfl (zB0 (v := .int .i64 _) hs 2 rfl sz3 rfl rfl rfl rfl ?_); clear hs; intro w hs
   try simp only [zzs, zzz] at hs
   refine zA6 (zA4 (zA2 (J2 rfl (zA6 (zB2 rfl ?_ ?_)))))
   ·
    intro h42; refine zA2 (J0 rfl ?_); refine Jo rfl rfl (c := ((k + 1 : Nat) : Int)) (by first | rfl | (simp only; omega)) (inI (by omega) (by omega)) ?_; refine Jp (o' := 1) zDg rfl sz3 rfl rfl rfl (zB0 (v := .int .i64 _) hs 2 rfl sz3 rfl rfl rfl rfl ?_); clear hs; intro w hs
    try simp only [zzs, zzz] at hs
    refine Jp (o' := 2) zDg rfl sz3 rfl rfl rfl (zB0 (v := .int .i64 _) hs 2 rfl sz3 rfl rfl rfl rfl ?_); clear hs; intro w hs
    try simp only [zzs, zzz] at hs
    refine Jp (o' := 3) zDg rfl sz3 rfl rfl rfl (zB0 (v := .int .i64 _) hs 2 rfl sz3 rfl rfl rfl rfl ?_); clear hs; intro w hs
    try simp only [zzs, zzz] at hs
    refine zA6 (zA4 (zA4 ?_)); replace hs : Mem g w (zBh tc p ((tr : Nat) : Int) ((a2 : Nat) : Int) :: zB8 p st2 :: cells b3 (s4V (tm.id, ((k + 1 : Nat) : Int), 0, 0)) 103 :: ucO u ⟨td, tl, tc, tm, s1, s2, te, xs, (some ⟨bb, ob, none⟩, c3), (some ⟨bp, op, none⟩, c4)⟩ (tm.id, (k : Int), id, (done : Int)) false (zB9 td dk :: L)) := hs; obtain ⟨jr, de, hjw, hjc, hJS⟩ := hJ (tm.id, ((k + 1 : Nat) : Int), 0, 0) (by simp only [s4L, inR, List.all_cons, List.all_nil, Bool.and_true, Bool.and_eq_true, decide_eq_true_eq]; omega); refine zAq zBk (hs.drop 9) ?_; intro w tr hK; replace hs := tr _ hs; clear tr; refine Q0 0 rfl rfl hK ?_
    refine Q7 1 rfl rfl hK (Q6 2 rfl (o' := 0) zDf rfl sz25 rfl rfl rfl hK (Qd 3 rfl uz25 rfl (fun w hs => hs.cellAt 3 rfl rfl) hK (Qb 4 rfl (fun w hs => zBd hs 2 rfl zDg zEa rfl) hK (zAc [5] ⟨⟨_, rfl, ?_⟩, trivial⟩)))); refine Qg en100 (jwrite_sl hE.uJ hcl (hs.arr [9, 0, 1, 2, 3, 4, 5, 6, 7, 8] 10 (by decide)) (x0 := tm.id) (x1 := ((k + 1 : Nat) : Int)) (x2 := 0) (x3 := 0) (inI (by omega) (by omega)) (inI (by omega) (by omega)) (inI (by omega) (by omega)) (inI (by omega) (by omega)) hjw) ?_; clear hs; rintro _ w ⟨rfl, hs⟩; clear hK; have hK := hs.suffix 1 rfl
    refine zA6 ⟨hK, ?_⟩; refine Q1 6 rfl rfl hK (zAs (by kernel_rfl) ?_); clear hK; refine zA4 (zA2 (J8 rfl (Jv (ad := ad) rfl (zA6 (zB2 rfl ?_ ?_)))))
    ·
     intro h64; have g64 := zFj h64; refine zA4 (zA2 (J8 rfl (J6 rfl (zA6 (zAe (zBi (v := zAk ad _) rfl rfl ?_)))))); exact ⟨_, rfl, id2, dn2, is2, 0, st2, a2, hR, .inr ⟨rfl, (tm.id, ((k + 1 : Nat) : Int), 0, 0), jr, de, by rw [if_pos h42], hJS, hjw, by simp only [s4L, inR, List.all_cons, List.all_nil, Bool.and_true, Bool.and_eq_true, decide_eq_true_eq]; omega, rfl, by rw [if_neg g64]; exact Mem.closeUp (hs.arr [4, 5, 6, 7, 8, 9, 1, 2, 0] 10 (by decide))⟩⟩
    ·
     intro h64; have g64 := zFi h64; refine zAd (zA4 (zA2 (J1 rfl (Qa (zBd hs 3 rfl zDg zEa rfl) (Jx rfl (Jp (o' := 11) zDf rfl zEa rfl rfl rfl (zGt hs 4 (upL ⟨td, tl, tc, tm, s1, s2, te, xs, (some ⟨bb, ob, none⟩, c3), (some ⟨bp, op, none⟩, c4)⟩ (tm.id, ((k + 1 : Nat) : Int), 0, 0) false) rfl rfl rfl zEa rfl rfl rfl ?_))))))); clear hs; intro w hs
     try simp only [zzs, zzz] at hs
     refine zA6 (zA4 (zA2 (J3 rfl (zA6 (zAe (zBi (v := .nilIface) rfl rfl ?_))))))
     have hj0 : jr = 0 := by simpa using h64
     subst hj0; exact ⟨_, rfl, id2, dn2, is2, 0, st2, a2, hR, .inr ⟨rfl, (tm.id, ((k + 1 : Nat) : Int), 0, 0), 0, de, by rw [if_pos h42], hJS, hjw, by simp only [s4L, inR, List.all_cons, List.all_nil, Bool.and_true, Bool.and_eq_true, decide_eq_true_eq]; omega, (zB ad).symm, by rw [if_pos rfl]; exact Mem.closeUp (hs.arr [4, 5, 6, 7, 8, 9, 1, 2, 0] 10 (by decide))⟩⟩
   ·
    intro h42; refine zAd (zA4 (zA4 ?_)); obtain ⟨hr3, hr4, hr5⟩ := hr2 h42; replace hs : Mem g w (zBh tc p ((tr : Nat) : Int) ((a2 : Nat) : Int) :: zB8 p st2 :: cells b3 (s4V (tm.id, (k : Int), id2, (dn2 : Int))) 103 :: ucO u ⟨td, tl, tc, tm, s1, s2, te, xs, (some ⟨bb, ob, none⟩, c3), (some ⟨bp, op, none⟩, c4)⟩ (tm.id, (k : Int), id, (done : Int)) false (zB9 td dk :: L)) := hs; obtain ⟨jr, de, hjw, hjc, hJS⟩ := hJ (tm.id, (k : Int), id2, (dn2 : Int)) (by simp only [s4L, inR, List.all_cons, List.all_nil, Bool.and_true, Bool.and_eq_true, decide_eq_true_eq]; omega); refine zAq zBk (hs.drop 9) ?_; intro w tr hK; replace hs := tr _ hs; clear tr
    refine Q0 0 rfl rfl hK (Q7 1 rfl rfl hK (Q6 2 rfl (o' := 0) zDf rfl sz25 rfl rfl rfl hK (Qd 3 rfl uz25 rfl (fun w hs => hs.cellAt 3 rfl rfl) hK (Qb 4 rfl (fun w hs => zBd hs 2 rfl zDg zEa rfl) hK (zAc [5] ⟨⟨_, rfl, ?_⟩, trivial⟩))))); refine Qg en100 (jwrite_sl hE.uJ hcl (hs.arr [9, 0, 1, 2, 3, 4, 5, 6, 7, 8] 10 (by decide)) (x0 := tm.id) (x1 := (k : Int)) (x2 := id2) (x3 := (dn2 : Int)) (inI (by omega) (by omega)) (inI (by omega) (by omega)) (inI (by omega) (by omega)) (inI (by omega) (by omega)) hjw) ?_
    clear hs; rintro _ w ⟨rfl, hs⟩; clear hK; have hK := hs.suffix 1 rfl; refine zA6 ⟨hK, ?_⟩; refine Q1 6 rfl rfl hK (zAs (by kernel_rfl) ?_); clear hK; refine zA4 (zA2 (J8 rfl (Jv (ad := ad) rfl (zA6 (zB2 rfl ?_ ?_)))))
    ·
     intro h64; have g64 := zFj h64; refine zA4 (zA2 (J8 rfl (J6 rfl (zA6 (zAe (zBi (v := zAk ad _) rfl rfl ?_)))))); exact ⟨_, rfl, id2, dn2, is2, 0, st2, a2, hR, .inr ⟨rfl, (tm.id, (k : Int), id2, (dn2 : Int)), jr, de, by rw [if_neg (by rw [h42]; decide)], hJS, hjw, by simp only [s4L, inR, List.all_cons, List.all_nil, Bool.and_true, Bool.and_eq_true, decide_eq_true_eq]; omega, rfl, by rw [if_neg g64]; exact Mem.closeUp (hs.arr [4, 5, 6, 7, 8, 9, 1, 2, 0] 10 (by decide))⟩⟩
    ·
     intro h64; have g64 := zFi h64; refine zAd (zA4 (zA2 (J1 rfl (Qa (zBd hs 3 rfl zDg zEa rfl) (Jx rfl (Jp (o' := 11) zDf rfl zEa rfl rfl rfl (zGt hs 4 (upL ⟨td, tl, tc, tm, s1, s2, te, xs, (some ⟨bb, ob, none⟩, c3), (some ⟨bp, op, none⟩, c4)⟩ (tm.id, (k : Int), id2, (dn2 : Int)) false) rfl rfl rfl zEa rfl rfl rfl ?_))))))); clear hs; intro w hs
     try simp only [zzs, zzz] at hs
     refine zA6 (zA4 (zA2 (J3 rfl (zA6 (zAe (zBi (v := .nilIface) rfl rfl ?_))))))
     have hj0 : jr = 0 := by simpa using h64
     subst hj0; exact ⟨_, rfl, id2, dn2, is2, 0, st2, a2, hR, .inr ⟨rfl, (tm.id, (k : Int), id2, (dn2 : Int)), 0, de, by rw [if_neg (by rw [h42]; decide)], hJS, hjw, by simp only [s4L, inR, List.all_cons, List.all_nil, Bool.and_true, Bool.and_eq_true, decide_eq_true_eq]; omega, (zB ad).symm, by rw [if_pos rfl]; exact Mem.closeUp (hs.arr [4, 5, 6, 7, 8, 9, 1, 2, 0] 10 (by decide))⟩⟩
end
section
open Go.RowKit
attribute [local irreducible] zAk eV
variable {g w : World} {L M : List HP} {ad : Nat → Addr} {p u ev n q c : Nat} {dk : Dk} {st : St} {t : UpT} {a : S4} {ov : Bool} {V : Vw}
theorem step_over (hs : Mem g w (UpC u t a true :: zDs t.l t.d ev V q c n :: L)) : Calls Tryz.prog 16 #[.pointer (some ⟨u, 0, none⟩)] w (Ret fun v w' => v = .tuple #[.bool true, .nilIface] ∧ Mem g w' (UpC u t a true :: zDs t.l t.d ev V q c n :: L)) := by
  replace hs := hs.openUp; refine zAh Tryz.func16 rfl rfl ?_
  refine zA4 (zA2 (J5 rfl (J3 rfl (zA6 (cw_scope (zA4 (cw_label (zA4 (zAp (zBs (X := Unit) [2, 3, 4, 5, 6, 7, 8, 9, 10, 11, 12, 13, 14, 15, 16, 17, 18, 19, 20, 21, 22, 23, 24, 25, 26, 27, 28, 29, 30, 31, 32, 33, 34, 35, 36, 37, 38, 39, 40, 41, 42, 43, 44, 45, 46, 47, 48, 49, 50, 51, 52, 53, 54, 55, 56, 57, 58, 59, 60, 61, 62, 63, 64, 65, 66, 67, 68, 69, 70, 71, 72, 73] (fun _ => []) (fun _ w => Mem g w (ucO u t a true (zDs t.l t.d ev V q c n :: L))) (fun _ => 0) (()) ?_ ?_ ?_))))))))))
  · exact trivial
  · exact hs
  clear hs; rintro x ξ w hI; have hs := hI; refine zAp (zA4 (zA4 (zAq zBk hs ?_))); intro w tr hK; replace hs := tr _ hs; clear tr; refine Q0 0 rfl rfl hK (Q7 1 rfl rfl hK (Q6 2 rfl (o' := 1) zDf rfl sz32 rfl rfl rfl hK (Qd 3 rfl uz32 rfl (fun w hs => hs.cellAt 0 rfl rfl) hK (Q0 5 rfl rfl hK (Q7 6 rfl rfl hK (Q6 7 rfl (o' := 3) zDf rfl zEt rfl rfl rfl hK ?_))))))
  refine Q6 8 rfl zCp rfl sz3 rfl rfl rfl hK (Qd 9 rfl uz3 rfl (fun w hs => hs.cellAt 0 rfl rfl) hK (zAc [4] ⟨⟨_, rfl, ?_⟩, trivial⟩)); refine Qg en19 (zG5 (hs.arr [6, 0, 1, 2, 3, 4, 5] 7 (by decide))) ?_; clear hs; rintro _ w ⟨v11, rfl, hs⟩; clear hK; have hK := hs.arr [2, 3, 4, 5, 6, 7, 1] 8 (by decide); refine zA6 ⟨hK, ?_⟩; refine zAc [10] ⟨⟨_, rfl, ?_⟩, trivial⟩; refine Qg en20 (zF6 hs t.m.id) ?_; clear hs; rintro _ w ⟨rfl, hs⟩; clear hK; have hK := hs.arr [2, 3, 4, 5, 6, 7, 1] 8 (by decide); refine zA6 ⟨hK, ?_⟩; refine Q5 11 rfl (v := .int .i64 _) rfl hK ?_
  refine zAs (by kernel_rfl) ?_; clear hK; refine zAp (zA4 (zA2 (J1 rfl (Jx rfl (Jp (o' := 15) zDf rfl sz4 rfl rfl rfl (Qc uz4 rfl hs 2 rfl rfl (J5 rfl (zA6 (zBc rfl (rfl) (zBm rfl (zA4 (zA2 ?_)))))))))))); exact J5 rfl (J3 rfl (zA6 (zAe (zEd (v := .bool _) (v2 := .nilIface) rfl rfl rfl ⟨_, rfl, rfl, Mem.closeUp (hs.arr [2, 3, 4, 5, 6, 7, 1] 8 (by decide))⟩))))
theorem step_first {R : Nat → Dk → Vw → Nat → Nat → Nat → Prop} (hst : V.state t.m.id = 0)
    (hA : ∀ {w : World} {M : List HP}, Mem g w (zDs t.l t.d ev V q c n :: zB9 t.d dk :: M) → MfR g M t.m t.s1 t.s2 → Calls Tryz.prog 52 #[.pointer (some ⟨t.l, 0, none⟩), .agg (.int .i64 1 :: mfL t.m t.s1 t.s2).toArray] w (Ret fun v w' => ∃ kr dk2 V' q' c' n', v = zAk ad kr ∧ R kr dk2 V' q' c' n' ∧ Mem g w' (zDs t.l t.d ev V' q' c' n' :: zB9 t.d dk2 :: M)))
    (hs : Mem g w (UpC u t a false :: zDs t.l t.d ev V q c n :: zB9 t.d dk :: L)) : Calls Tryz.prog 16 #[.pointer (some ⟨u, 0, none⟩)] w (Ret fun v w' => ∃ kr dk2 V' q' c' n', v = .tuple #[.bool false, zAk ad kr] ∧ R kr dk2 V' q' c' n' ∧ Mem g w' (UpC u t a false :: zDs t.l t.d ev V' q' c' n' :: zB9 t.d dk2 :: L)) := by
  replace hs := hs.openUp; refine zAh Tryz.func16 rfl rfl ?_
  refine zA4 (zA2 (J5 rfl (J3 rfl (zA6 (cw_scope (zA4 (cw_label (zA4 (zAp (zBs (X := Unit) [2, 3, 4, 5, 6, 7, 8, 9, 10, 11, 12, 13, 14, 15, 16, 17, 18, 19, 20, 21, 22, 23, 24, 25, 26, 27, 28, 29, 30, 31, 32, 33, 34, 35, 36, 37, 38, 39, 40, 41, 42, 43, 44, 45, 46, 47, 48, 49, 50, 51, 52, 53, 54, 55, 56, 57, 58, 59, 60, 61, 62, 63, 64, 65, 66, 67, 68, 69, 70, 71, 72, 73] (fun _ => []) (fun _ w => Mem g w (ucO u t a false (zDs t.l t.d ev V q c n :: zB9 t.d dk :: L))) (fun _ => 0) (()) ?_ ?_ ?_))))))))))
  · exact trivial
  · exact hs
  clear hs; rintro x ξ w hI; have hs := hI; refine zAp (zA4 (zA4 (zAq zBk hs ?_))); intro w tr hK; replace hs := tr _ hs; clear tr; refine Q0 0 rfl rfl hK (Q7 1 rfl rfl hK (Q6 2 rfl (o' := 1) zDf rfl sz32 rfl rfl rfl hK (Qd 3 rfl uz32 rfl (fun w hs => hs.cellAt 0 rfl rfl) hK (Q0 5 rfl rfl hK (Q7 6 rfl rfl hK (Q6 7 rfl (o' := 3) zDf rfl zEt rfl rfl rfl hK ?_))))))
  refine Q6 8 rfl zCp rfl sz3 rfl rfl rfl hK (Qd 9 rfl uz3 rfl (fun w hs => hs.cellAt 0 rfl rfl) hK (zAc [4] ⟨⟨_, rfl, ?_⟩, trivial⟩)); refine Qg en19 (zG5 (hs.arr [6, 0, 1, 2, 3, 4, 5, 7] 8 (by decide))) ?_; clear hs; rintro _ w ⟨v11, rfl, hs⟩; clear hK; have hK := hs.arr [2, 3, 4, 5, 6, 7, 1, 8] 9 (by decide); refine zA6 ⟨hK, ?_⟩; refine zAc [10] ⟨⟨_, rfl, ?_⟩, trivial⟩; refine Qg en20 (zF6 hs t.m.id) ?_; clear hs; rintro _ w ⟨rfl, hs⟩; clear hK; have hK := hs.arr [2, 3, 4, 5, 6, 7, 1, 8] 9 (by decide); refine zA6 ⟨hK, ?_⟩; refine Q5 11 rfl (v := .int .i64 _) rfl hK ?_
  refine zAs (by kernel_rfl) ?_; clear hK; refine zAp (zA4 (zA2 (J1 rfl (Jx rfl (Jp (o' := 15) zDf rfl sz4 rfl rfl rfl (Qc uz4 rfl hs 2 rfl rfl (J5 rfl (zA6 (zAz rfl (rfl) (zA4 (zA2 (J0 rfl ?_)))))))))))); refine Jw rfl rfl (J5 rfl (zA6 (zBc rfl ((decide_eq_true hst)) (zA4 ?_)))); replace hs := hs.arr [2, 3, 4, 5, 6, 7, 1, 8] 9 (by decide)
  replace hs : Mem g w (ucO u t a false (zDs t.l t.d ev V q c n :: zB9 t.d dk :: L)) := hs; refine zAq zBk ((hs.drop 7).drop 6) ?_; intro w tr hK; replace hs := tr _ hs; clear tr; refine Q0 0 rfl rfl hK (Q7 1 rfl rfl hK (Q6 2 rfl (o' := 1) zDf rfl sz32 rfl rfl rfl hK (Qd 3 rfl uz32 rfl (fun w hs => hs.cellAt 0 rfl rfl) hK (Q0 4 rfl rfl hK (Q7 5 rfl rfl hK (Q6 6 rfl (o' := 3) zDf rfl zEt rfl rfl rfl hK ?_))))))
  refine Qb 7 rfl (fun w hs => zCj hs 0 (mfL t.m t.s1 t.s2) rfl zCp zEt rfl rfl) hK (@zFs _ _ _ _ _ _ _ _ _ _ _ _ _ _ 8 _ rfl (by kernel_rfl) (by kernel_rfl) (by kernel_rfl) rfl (fun w hs => zG0 (k := 1) (m := t.m) (e := t.s1) (o := t.s2) zE1 ze121 pl121 rfl rfl) hK (zAc [9] ⟨⟨_, rfl, ?_⟩, trivial⟩)); refine Qg en52 (hA (hs.arr [6, 7, 0, 1, 2, 3, 4, 5] 8 (by decide)) (MfR.own 1 2 rfl rfl)) ?_; clear hs; rintro _ w ⟨kr, dk2, V2, q2, c2, n2, rfl, hR, hs⟩; clear hK; have hK := hs.suffix 2 rfl; refine zA6 ⟨hK, ?_⟩; refine Q5 10 rfl (v := .bool _) rfl hK (Q1 11 rfl rfl hK ?_)
  refine zAs (by kernel_rfl) ?_; clear hK; exact zAe (zEd (v := .bool _) (v2 := zAk ad _) rfl rfl rfl ⟨_, rfl, kr, dk2, V2, q2, c2, n2, rfl, hR, Mem.closeUp (hs.arr [2, 3, 4, 5, 6, 7, 0, 1] 8 (by decide))⟩)
theorem step_obj (hE : ErrU ad g) {Q : Nat → World → Prop} (hst : V.state t.m.id ≠ 0) (ha : a.2.1 < (t.xs.length : Nat)) (hO : ∀ w, Mem g w (UpC u t a false :: zDs t.l t.d ev V q c n :: L) → Calls Tryz.prog 53 #[.pointer (some ⟨u, 0, none⟩)] w (Ret fun v w' => ∃ k, v = zAk ad k ∧ Q k w'))
    (hs : Mem g w (UpC u t a false :: zDs t.l t.d ev V q c n :: L)) : Calls Tryz.prog 16 #[.pointer (some ⟨u, 0, none⟩)] w (Ret fun v w' => ∃ k, v = .tuple #[.bool false, zAk ad k] ∧ Q k w') := by
  replace hs := hs.openUp; refine zAh Tryz.func16 rfl rfl ?_
  refine zA4 (zA2 (J5 rfl (J3 rfl (zA6 (cw_scope (zA4 (cw_label (zA4 (zAp (zBs (X := Unit) [2, 3, 4, 5, 6, 7, 8, 9, 10, 11, 12, 13, 14, 15, 16, 17, 18, 19, 20, 21, 22, 23, 24, 25, 26, 27, 28, 29, 30, 31, 32, 33, 34, 35, 36, 37, 38, 39, 40, 41, 42, 43, 44, 45, 46, 47, 48, 49, 50, 51, 52, 53, 54, 55, 56, 57, 58, 59, 60, 61, 62, 63, 64, 65, 66, 67, 68, 69, 70, 71, 72, 73] (fun _ => []) (fun _ w => Mem g w (ucO u t a false (zDs t.l t.d ev V q c n :: L))) (fun _ => 0) (()) ?_ ?_ ?_))))))))))
  · exact trivial
  · exact hs
  clear hs; rintro x ξ w hI; have hs := hI; refine zAp (zA4 (zA4 (zAq zBk hs ?_))); intro w tr hK; replace hs := tr _ hs; clear tr; refine Q0 0 rfl rfl hK (Q7 1 rfl rfl hK (Q6 2 rfl (o' := 1) zDf rfl sz32 rfl rfl rfl hK (Qd 3 rfl uz32 rfl (fun w hs => hs.cellAt 0 rfl rfl) hK (Q0 5 rfl rfl hK (Q7 6 rfl rfl hK (Q6 7 rfl (o' := 3) zDf rfl zEt rfl rfl rfl hK ?_))))))
  refine Q6 8 rfl zCp rfl sz3 rfl rfl rfl hK (Qd 9 rfl uz3 rfl (fun w hs => hs.cellAt 0 rfl rfl) hK (zAc [4] ⟨⟨_, rfl, ?_⟩, trivial⟩)); refine Qg en19 (zG5 (hs.arr [6, 0, 1, 2, 3, 4, 5] 7 (by decide))) ?_; clear hs; rintro _ w ⟨v11, rfl, hs⟩; clear hK; have hK := hs.arr [2, 3, 4, 5, 6, 7, 1] 8 (by decide); refine zA6 ⟨hK, ?_⟩; refine zAc [10] ⟨⟨_, rfl, ?_⟩, trivial⟩; refine Qg en20 (zF6 hs t.m.id) ?_; clear hs; rintro _ w ⟨rfl, hs⟩; clear hK; have hK := hs.arr [2, 3, 4, 5, 6, 7, 1] 8 (by decide); refine zA6 ⟨hK, ?_⟩; refine Q5 11 rfl (v := .int .i64 _) rfl hK ?_
  refine zAs (by kernel_rfl) ?_; clear hK; refine zAp (zA4 (zA2 (J1 rfl (Jx rfl (Jp (o' := 15) zDf rfl sz4 rfl rfl rfl (Qc uz4 rfl hs 2 rfl rfl (J5 rfl (zA6 (zAz rfl (rfl) (zA4 (zA2 (J0 rfl ?_)))))))))))); refine Jw rfl rfl (J5 rfl (zA6 (zAz rfl ((decide_eq_false hst)) (zA4 ?_)))); replace hs := hs.arr [2, 3, 4, 5, 6, 7, 1] 8 (by decide)
  replace hs : Mem g w (ucO u t a false (zDs t.l t.d ev V q c n :: L)) := hs; refine zAq zBk hs ?_; intro w tr hK; replace hs := tr _ hs; clear tr; refine Q0 0 rfl rfl hK (Q7 1 rfl rfl hK (Q6 2 rfl (o' := 11) zDf rfl zEa rfl rfl rfl hK (Q6 3 rfl zDg rfl sz3 rfl rfl rfl hK (Qd 4 rfl uz3 rfl (fun w hs => hs.cellAt 0 rfl rfl) hK (Q0 5 rfl rfl hK (Q7 6 rfl rfl hK ?_))))))
  refine Q6 7 rfl (o' := 10) zDf rfl sz104 rfl rfl rfl hK (Qd 8 rfl zDt rfl (fun w hs => hs.cellAt 0 rfl rfl) hK (Qb 9 rfl (fun w hs => zAu zDt rfl) hK (Qb 10 rfl (fun w hs => zB6 rfl rfl) hK (Q5 11 rfl (v := .bool _) rfl hK (zAs (by kernel_rfl) ?_))))); clear hK; refine zBc rfl ((decide_eq_true ha)) (zA4 (zA2 (J1 rfl (Qg en53 (hO _ (Mem.closeUp hs)) ?_)))); clear hs; rintro _ w ⟨kq, rfl, hQ⟩; refine J5 rfl (J6 rfl (zA6 (zAe ?_)))
  exact zEd (v := .bool _) (v2 := zAk ad _) rfl rfl rfl ⟨_, rfl, _, rfl, hQ⟩
def LastI (g : World) (u : Nat) (t : UpT) (a : S4) (ev : Nat) (V : Vw) (q c n : Nat) (dk : Dk) (L : List HP) (R : Nat → Dk → Vw → Nat → Nat → Nat → Prop) (w : World) : Option (Dk × Vw × Nat × Nat × Nat) → Prop
  | none => Mem g w (ucO u t a false (zDs t.l t.d ev V q c n :: zB9 t.d dk :: L))
  | some x => (∃ dk2, R 0 dk2 x.2.1 x.2.2.1 x.2.2.2.1 x.2.2.2.2 ∧ dk2.jremove = (0, x.1)) ∧ Mem g w (ucO u t a true (zDs t.l t.d ev x.2.1 x.2.2.1 x.2.2.2.1 x.2.2.2.2 :: zB9 t.d x.1 :: L))
set_option maxHeartbeats 1000000 in
theorem step_last (hE : ErrU ad g) {R : Nat → Dk → Vw → Nat → Nat → Nat → Prop} (hst : V.state t.m.id ≠ 0) (ha : ¬ a.2.1 < (t.xs.length : Nat))
    (hA : ∀ {w : World} {M : List HP}, Mem g w (zDs t.l t.d ev V q c n :: zB9 t.d dk :: M) → MfR g M t.m t.s1 t.s2 → Calls Tryz.prog 52 #[.pointer (some ⟨t.l, 0, none⟩), .agg (.int .i64 2 :: mfL t.m t.s1 t.s2).toArray] w (Ret fun v w' => ∃ kr dk2 V' q' c' n', v = zAk ad kr ∧ R kr dk2 V' q' c' n' ∧ Mem g w' (zDs t.l t.d ev V' q' c' n' :: zB9 t.d dk2 :: M)))
    (hR : ∀ {kr dk2 V' q' c' n'}, R kr dk2 V' q' c' n' → dk2.calls < 900000)
    (hs : Mem g w (UpC u t a false :: zDs t.l t.d ev V q c n :: zB9 t.d dk :: L)) : Calls Tryz.prog 16 #[.pointer (some ⟨u, 0, none⟩)] w (Ret fun v w' => ∃ kr dk2 V' q' c' n', R kr dk2 V' q' c' n' ∧
      ((kr ≠ 0 ∧ v = .tuple #[.bool false, zAk ad kr] ∧ Mem g w' (UpC u t a false :: zDs t.l t.d ev V' q' c' n' :: zB9 t.d dk2 :: L)) ∨
       (kr = 0 ∧ ∃ j e, dk2.jremove = (j, e) ∧ v = .tuple #[.bool (decide (j = 0)), zAk ad j] ∧ Mem g w' (UpC u t a true :: zDs t.l t.d ev V' q' c' n' :: zB9 t.d e :: L)))) := by
  replace hs := hs.openUp; refine zAh Tryz.func16 rfl rfl ?_
  refine zA4 (zA2 (J5 rfl (J3 rfl (zA6 (cw_scope (zA4 (cw_label (zA4 (zAp (zBs (X := Option (Dk × Vw × Nat × Nat × Nat)) [2, 3, 4, 5, 6, 7, 8, 9, 10, 11, 12, 13, 14, 15, 16, 17, 18, 19, 20, 21, 22, 23, 24, 25, 26, 27, 28, 29, 30, 31, 32, 33, 34, 35, 36, 37, 38, 39, 40, 41, 42, 43, 44, 45, 46, 47, 48, 49, 50, 51, 52, 53, 54, 55, 56, 57, 58, 59, 60, 61, 62, 63, 64, 65, 66, 67, 68, 69, 70, 71, 72, 73] (fun _ => []) (fun x w => LastI g u t a ev V q c n dk L R w x) (fun x => x.elim 1 (fun _ => 0)) (none) ?_ ?_ ?_))))))))))
  · exact trivial
  · exact hs
  clear hs; rintro x ξ w hI; refine zAp (zA4 (zA4 ?_))
  rcases x with _ | ⟨dx, Vx, qx, cx, nx⟩
  ·
   have hs : Mem g w (ucO u t a false (zDs t.l t.d ev V q c n :: zB9 t.d dk :: L)) := hI; refine zAq zBk hs ?_; intro w tr hK; replace hs := tr _ hs; clear tr; refine Q0 0 rfl rfl hK (Q7 1 rfl rfl hK (Q6 2 rfl (o' := 1) zDf rfl sz32 rfl rfl rfl hK (Qd 3 rfl uz32 rfl (fun w hs => hs.cellAt 0 rfl rfl) hK (Q0 5 rfl rfl hK (Q7 6 rfl rfl hK (Q6 7 rfl (o' := 3) zDf rfl zEt rfl rfl rfl hK ?_))))))
   refine Q6 8 rfl zCp rfl sz3 rfl rfl rfl hK (Qd 9 rfl uz3 rfl (fun w hs => hs.cellAt 0 rfl rfl) hK (zAc [4] ⟨⟨_, rfl, ?_⟩, trivial⟩)); refine Qg en19 (zG5 (hs.arr [6, 0, 1, 2, 3, 4, 5, 7] 8 (by decide))) ?_; clear hs; rintro _ w ⟨v11, rfl, hs⟩; clear hK; have hK := hs.arr [2, 3, 4, 5, 6, 7, 1, 8] 9 (by decide); refine zA6 ⟨hK, ?_⟩; refine zAc [10] ⟨⟨_, rfl, ?_⟩, trivial⟩; refine Qg en20 (zF6 hs t.m.id) ?_; clear hs; rintro _ w ⟨rfl, hs⟩; clear hK; have hK := hs.arr [2, 3, 4, 5, 6, 7, 1, 8] 9 (by decide); refine zA6 ⟨hK, ?_⟩; refine Q5 11 rfl (v := .int .i64 _) rfl hK ?_
   refine zAs (by kernel_rfl) ?_; clear hK; refine zAp (zA4 (zA2 (J1 rfl (Jx rfl (Jp (o' := 15) zDf rfl sz4 rfl rfl rfl (Qc uz4 rfl hs 2 rfl rfl (J5 rfl (zA6 (zAz rfl (rfl) (zA4 (zA2 (J0 rfl ?_)))))))))))); refine Jw rfl rfl (J5 rfl (zA6 (zAz rfl ((decide_eq_false hst)) (zA4 ?_)))); replace hs := hs.arr [2, 3, 4, 5, 6, 7, 1, 8] 9 (by decide)
   replace hs : Mem g w (ucO u t a false (zDs t.l t.d ev V q c n :: zB9 t.d dk :: L)) := hs; refine zAq zBk hs ?_; intro w tr hK; replace hs := tr _ hs; clear tr; refine Q0 0 rfl rfl hK (Q7 1 rfl rfl hK (Q6 2 rfl (o' := 11) zDf rfl zEa rfl rfl rfl hK (Q6 3 rfl zDg rfl sz3 rfl rfl rfl hK (Qd 4 rfl uz3 rfl (fun w hs => hs.cellAt 0 rfl rfl) hK (Q0 5 rfl rfl hK (Q7 6 rfl rfl hK ?_))))))
   refine Q6 7 rfl (o' := 10) zDf rfl sz104 rfl rfl rfl hK (Qd 8 rfl zDt rfl (fun w hs => hs.cellAt 0 rfl rfl) hK (Qb 9 rfl (fun w hs => zAu zDt rfl) hK (Qb 10 rfl (fun w hs => zB6 rfl rfl) hK (Q5 11 rfl (v := .bool _) rfl hK (zAs (by kernel_rfl) ?_))))); clear hK; refine zAz rfl ((decide_eq_false ha)) (zAd (zA4 (zA4 (zAq zBk ((hs.drop 7).drop 6) ?_)))); intro w tr hK; replace hs := tr _ hs; clear tr; refine Q0 0 rfl rfl hK (Q7 1 rfl rfl hK ?_)
   refine Q6 2 rfl (o' := 1) zDf rfl sz32 rfl rfl rfl hK (Qd 3 rfl uz32 rfl (fun w hs => hs.cellAt 0 rfl rfl) hK (Q0 4 rfl rfl hK (Q7 5 rfl rfl hK (Q6 6 rfl (o' := 3) zDf rfl zEt rfl rfl rfl hK (Qb 7 rfl (fun w hs => zCj hs 0 (mfL t.m t.s1 t.s2) rfl zCp zEt rfl rfl) hK (@zFs _ _ _ _ _ _ _ _ _ _ _ _ _ _ 8 _ rfl (by kernel_rfl) (by kernel_rfl) (by kernel_rfl) rfl (fun w hs => zG0 (k := 2) (m := t.m) (e := t.s1) (o := t.s2) zE1 ze121 pl121 rfl rfl) hK (zAc [9] ?_)))))))
   refine ⟨⟨_, rfl, ?_⟩, trivial⟩; refine Qg en52 (hA (hs.arr [6, 7, 0, 1, 2, 3, 4, 5] 8 (by decide)) (MfR.own 1 2 rfl rfl)) ?_; clear hs; rintro _ w ⟨kr, dk2, V2, q2, c2, n2, rfl, hR0, hs⟩; clear hK; have hK := hs.suffix 2 rfl; refine zA6 ⟨hK, ?_⟩; refine Q1 10 rfl rfl hK (zAs (by kernel_rfl) ?_); clear hK; refine zA4 (zA2 (J8 rfl (Jv (ad := ad) rfl (zA6 (zB2 rfl ?_ ?_)))))
   ·
    intro h61; have g61 := zFj h61; exact zA4 (zA2 (J8 rfl (J5 rfl (J6 rfl (zA6 (zAe (zEd (v := .bool _) (v2 := zAk ad _) rfl rfl rfl ⟨_, rfl, kr, dk2, V2, q2, c2, n2, hR0, .inl ⟨g61, rfl, Mem.closeUp (hs.arr [2, 3, 4, 5, 6, 7, 0, 1] 8 (by decide))⟩⟩)))))))
   ·
    intro h61; have g61 := zFi h61
    have hk0 : kr = 0 := by simpa using h61
    subst hk0; refine zAd (zA4 (zA2 (J1 rfl (Jx rfl (Jp (o' := 15) zDf rfl sz4 rfl rfl rfl (zB0 (v := .bool _) hs 2 rfl sz4 rfl rfl rfl rfl ?_)))))); clear hs; intro w hs
    try simp only [zzs, zzz] at hs
    refine zA6 (zA4 ?_); obtain ⟨jr, de, hjr⟩ : ∃ jr de, dk2.jremove = (jr, de) := ⟨_, _, rfl⟩; refine zA2 (J1 rfl (Jx rfl (Jp (o' := 0) zDf rfl sz25 rfl rfl rfl (Qc uz25 rfl hs 2 rfl rfl (Qg en54 (jremove_sl hE.uK (hR hR0) (hs.arr [1, 0, 2, 3, 4, 5, 6, 7] 8 (by decide)) hjr) ?_))))); clear hs; rintro _ w ⟨rfl, hs⟩; refine J6 rfl (zA6 (zA4 (zA2 (J8 rfl (Jv (ad := ad) rfl (zA6 (zB2 rfl ?_ ?_)))))))
    ·
     intro h72; have g72 := zFj h72; refine zA4 (zA2 (J8 rfl (J5 rfl (J6 rfl (zA6 (zAe (zEd (v := .bool _) (v2 := zAk ad _) rfl rfl rfl ?_))))))); exact ⟨_, rfl, 0, dk2, V2, q2, c2, n2, hR0, .inr ⟨rfl, jr, de, hjr, by rw [decide_eq_false g72], Mem.closeUp (hs.arr [2, 3, 4, 5, 6, 7, 1, 0] 8 (by decide))⟩⟩
    ·
     intro h72; have g72 := zFi h72
     have hj0 : jr = 0 := by simpa using h72
     subst hj0; refine zAd ?_; exact ⟨some (de, V2, q2, c2, n2), (show (0 : Nat) < 1 by decide), ⟨⟨dk2, hR0, hjr⟩, hs.arr [2, 3, 4, 5, 6, 7, 1, 0] 8 (by decide)⟩, trivial, by repeat (first | exact Out.mix _ _ _ | refine Out.updo rfl ?_ | refine Out.upd rfl ?_ | refine Out.mixIn rfl ?_)⟩
  ·
   have hs : Mem g w (ucO u t a true (zDs t.l t.d ev Vx qx cx nx :: zB9 t.d dx :: L)) := hI.2; have hI1 := hI.1; refine zAq zBk hs ?_; intro w tr hK; replace hs := tr _ hs; clear tr; refine Q0 0 rfl rfl hK (Q7 1 rfl rfl hK (Q6 2 rfl (o' := 1) zDf rfl sz32 rfl rfl rfl hK (Qd 3 rfl uz32 rfl (fun w hs => hs.cellAt 0 rfl rfl) hK (Q0 5 rfl rfl hK (Q7 6 rfl rfl hK (Q6 7 rfl (o' := 3) zDf rfl zEt rfl rfl rfl hK ?_))))))
   refine Q6 8 rfl zCp rfl sz3 rfl rfl rfl hK (Qd 9 rfl uz3 rfl (fun w hs => hs.cellAt 0 rfl rfl) hK (zAc [4] ⟨⟨_, rfl, ?_⟩, trivial⟩)); refine Qg en19 (zG5 (hs.arr [6, 0, 1, 2, 3, 4, 5, 7] 8 (by decide))) ?_; clear hs; rintro _ w ⟨v11, rfl, hs⟩; clear hK; have hK := hs.arr [2, 3, 4, 5, 6, 7, 1, 8] 9 (by decide); refine zA6 ⟨hK, ?_⟩; refine zAc [10] ⟨⟨_, rfl, ?_⟩, trivial⟩; refine Qg en20 (zF6 hs t.m.id) ?_; clear hs; rintro _ w ⟨rfl, hs⟩; clear hK; have hK := hs.arr [2, 3, 4, 5, 6, 7, 1, 8] 9 (by decide); refine zA6 ⟨hK, ?_⟩; refine Q5 11 rfl (v := .int .i64 _) rfl hK ?_
   refine zAs (by kernel_rfl) ?_; clear hK; refine zAp (zA4 (zA2 (J1 rfl (Jx rfl (Jp (o' := 15) zDf rfl sz4 rfl rfl rfl (Qc uz4 rfl hs 2 rfl rfl (J5 rfl (zA6 (zBc rfl (rfl) (zBm rfl (zA4 (zA2 ?_)))))))))))); refine J5 rfl (J3 rfl (zA6 (zAe (zEd (v := .bool _) (v2 := .nilIface) rfl rfl rfl ?_)))); obtain ⟨dk2, hR2, hj⟩ := hI1
   exact ⟨_, rfl, 0, dk2, Vx, qx, cx, nx, hR2, .inr ⟨rfl, 0, dx, hj, by rw [zB]; rfl, Mem.closeUp (hs.arr [2, 3, 4, 5, 6, 7, 1, 8] 9 (by decide))⟩⟩
end
section
open Go.RowKit
variable {osb K os : List (ByteArray × List UInt8)} {e t : Nat} {uid : Int} {st : St} {i : Int} {cl : Bool}
def restM (e : Nat) (os : List (ByteArray × List UInt8)) : Nat := (os.map fun x => zBb x.2.length e + 2).sum
def ObI (osb K os : List (ByteArray × List UInt8)) (e : Nat) (i : Int) (cl : Bool) (a : S4) (st : St) (M : Nat) : Prop :=
  (∃ (k : Nat) (o : ByteArray × List UInt8) (uid : Int) (done m : Nat), os[k]? = some o ∧ a = (i, (k : Int), uid, (done : Int)) ∧ PIn osb (K ++ os.take k) st ∧ PhaseG o.1 o.2 e uid done st m ∧ M = m + restM e (os.drop (k + 1)) ∧ (cl = true → CleanG o.2 e uid st m)) ∨
  (a = (i, ((os.length : Nat) : Int), 0, 0) ∧ PIn osb (K ++ os) st ∧ M = 0 ∧ (cl = true → st.script = [] ∧ st.ups = []))
def tLeft (st : St) (M : Nat) : Nat := st.script.length + (if st.script = [] then M else 700)
theorem tLeft_lt {st st' : St} {M M' : Nat} (h : st'.script.length ≤ st.script.length - 1) (hM : M' ≤ 700) (h2 : st.script = [] → M' < M) : tLeft st' M' < tLeft st M := by
  unfold tLeft
  by_cases h0 : st.script = []
  · have h1 := zFo h h0
    rw [if_pos h1, if_pos h0, h1, h0]; have := h2 h0; simp only [List.length_nil]
    omega
  · rw [if_neg h0]
    have : st.script.length ≠ 0 := fun hz => h0 (List.eq_nil_of_length_eq_zero hz)
    split <;> omega
theorem restM_le (he : 1 ≤ e) : ∀ {os : List (ByteArray × List UInt8)}, (∀ o ∈ os, o.2.length ≤ 256) → restM e os ≤ 258 * os.length
  | [], _ => Nat.le_refl _
  | o :: os, h => by
    have h1 := zDv (n := o.2.length) he; have h2 := h o (List.mem_cons_self ..)
    have h3 := restM_le he (os := os) fun o ho => h o (List.mem_cons_of_mem _ ho)
    simp only [restM, List.map_cons, List.sum_cons, List.length_cons] at h3 ⊢
    omega
theorem restM_drop {k : Nat} {o : ByteArray × List UInt8} (h : os[k]? = some o) : restM e (os.drop k) = zBb o.2.length e + 2 + restM e (os.drop (k + 1)) := by
  obtain ⟨hk, rfl⟩ := List.getElem?_eq_some_iff.1 h; rw [List.drop_eq_getElem_cons hk]; simp only [restM, List.map_cons, List.sum_cons]
theorem ObI.at {k : Nat} (h : PIn osb (K ++ os.take k) st) (hk : k ≤ os.length) (hc : cl = true → st.script = [] ∧ st.ups = []) : ObI osb K os e i cl (i, (k : Int), 0, 0) st (restM e (os.drop k)) := by
  cases ho : os[k]? with
  | none =>
    have : k = os.length := by have := List.getElem?_eq_none_iff.1 ho; omega
    subst this; rw [List.take_length] at h; refine .inr ⟨rfl, h, ?_, hc⟩; rw [List.drop_length]
    rfl
  | some o =>
    exact .inl ⟨k, o, 0, 0, _, ho, rfl, h, .inl ⟨rfl, rfl, rfl⟩, restM_drop ho, fun hl => ⟨(hc hl).1, (fun z hz => by rw [(hc hl).2] at hz; cases hz), Nat.le_refl _⟩⟩
theorem ObI.le {a : S4} {M : Nat} (he : 1 ≤ e) (hos : ∀ o ∈ os, o.2.length ≤ 256) (h2 : os.length ≤ 2) (h : ObI osb K os e i cl a st M) : M ≤ 600 := by
  rcases h with ⟨k, o, u, d, m, ho, rfl, _, h, rfl, _⟩ | ⟨rfl, _, rfl, _⟩
  · obtain ⟨hk, rfl⟩ := List.getElem?_eq_some_iff.1 ho
    have h1 := zDv (n := os[k].2.length) he; have h3 := hos _ (List.getElem_mem hk)
    have h4 := restM_le he (os := os.drop (k + 1)) fun o ho => hos o (List.mem_of_mem_drop ho)
    have h5 := h.le.1; rw [List.length_drop] at h4
    omega
  · omega
theorem ObI.next {k done : Nat} {M : Nat} (he : 1 ≤ e) (hos : ∀ o ∈ os, o.2.length ≤ 256) (h2 : os.length ≤ 2) (h : ObI osb K os e i cl (i, (k : Int), uid, (done : Int)) st M) (hk : k < os.length) :
    ∃ o m, os[k]? = some o ∧ PIn osb (K ++ os.take k) st ∧ PhaseG o.1 o.2 e uid done st m ∧
      ∀ (id' : Int) (done' : Nat) (is : Bool) (z : Nat) (st' : St), PResG osb (K ++ os.take k) o.1 o.2 e t uid done st m id' done' is z st' →
        (z = 111 ∧ st.script ≠ [] ∧ ∃ M', ObI osb K os e i cl (i, (k : Int), uid, (done : Int)) st' M' ∧ tLeft st' M' < tLeft st M) ∨
        (z = 0 ∧ ∃ M', ObI osb K os e i cl (if is = true then (i, ((k + 1 : Nat) : Int), 0, 0) else (i, (k : Int), id', (done' : Int))) st' M' ∧ tLeft st' M' < tLeft st M ∧ (cl = true → M' + 1 = M) ∧ ∃ M2, ObI osb K os e i false (i, (k : Int), uid, (done : Int)) st' M2) := by
  rcases h with ⟨k', o, u, d, m, ho, ha, hp, hph, rfl, hc⟩ | ⟨ha, _⟩
  · simp only [Prod.mk.injEq, true_and] at ha
    obtain ⟨hk0, rfl, hd⟩ := ha
    have hk0 : k = k' := by omega
    have hd : done = d := by omega
    subst hk0 hd
    have hR : restM e (os.drop (k + 1)) ≤ 258 := by
      have := restM_le he (os := os.drop (k + 1)) fun o ho => hos o (List.mem_of_mem_drop ho)
      rw [List.length_drop] at this
      omega
    have hP := zDv (n := o.2.length) he; have hol := hos o (List.mem_of_getElem? ho); refine ⟨o, m, ho, hp, hph, fun id' done' is z st' hr => ?_⟩; obtain ⟨r1, _, _, _, r5, r6⟩ := hr
    rcases r6 with ⟨rfl, rfl, rfl, rfl, hn, m', hm'⟩ | ⟨rfl, rfl, m', hm', hle, hcl, m2, ho2⟩ | ⟨rfl, rfl, hg, hcl, m2, ho2⟩
    · refine .inl ⟨rfl, hn, _, .inl ⟨_, _, _, _, _, ho, rfl, r1, hm', rfl, fun hl => absurd (hc hl).1 hn⟩, tLeft_lt r5 (by have := hm'.le.1; omega) fun h0 => absurd h0 hn⟩
    · refine .inr ⟨rfl, _, by rw [if_neg (by decide)]; exact .inl ⟨_, _, _, _, _, ho, rfl, r1, hm', rfl, fun hl => (hcl (hc hl)).1⟩, tLeft_lt r5 (by have := hm'.le.1; omega) fun h0 => by omega, fun hl => (by have := (hcl (hc hl)).2; omega), _, .inl ⟨_, _, _, _, _, ho, rfl, r1, ho2, rfl, fun h => by cases h⟩⟩
    · have hb : zAx st'.objs o.1 = some o.2 := hg.2
      have hq := r1.keep hb; rw [List.append_assoc, show (o.1, o.2) = o from rfl, show os.take k ++ [o] = os.take (k + 1) by rw [List.take_add_one, ho]; rfl] at hq; refine .inr ⟨rfl, _, by rw [if_pos rfl]; exact ObI.at hq (by omega) fun hl => ⟨(hcl (hc hl)).2.2, (hcl (hc hl)).2.1⟩, tLeft_lt r5 (by omega) fun h0 => by have := hph.le.2.1; omega, fun hl => (by have := (hcl (hc hl)).1; omega), _, .inl ⟨_, _, _, _, _, ho, rfl, r1, ho2, rfl, fun h => by cases h⟩⟩
  · simp only [Prod.mk.injEq, true_and] at ha
    omega
theorem ObI.end_ {M : Nat} {a : S4} (h : ObI osb K os e i cl a st M) (hk : ¬ a.2.1 < (os.length : Nat)) : a = (i, ((os.length : Nat) : Int), 0, 0) ∧ PIn osb (K ++ os) st ∧ (∀ o ∈ os, zAx st.objs o.1 = some o.2) ∧ M = 0 ∧ (cl = true → st.script = [] ∧ st.ups = []) := by
  rcases h with ⟨k, o, u, d, m, ho, rfl, _⟩ | ⟨rfl, hp, hM, hc⟩
  · have := (List.getElem?_eq_some_iff.1 ho).1
    exact absurd (show (k : Int) < (os.length : Nat) by omega) hk
  · exact ⟨rfl, hp, fun o ho => hp.kept o (List.mem_append_right _ ho), hM, hc⟩
theorem ObI.form {M : Nat} {a : S4} (he : 1 ≤ e) (hos : ∀ o ∈ os, o.2.length ≤ 256) (h : ObI osb K os e i cl a st M) : ∃ (k done : Nat) (uid : Int), a = (i, (k : Int), uid, (done : Int)) ∧ k ≤ os.length ∧ 0 ≤ uid ∧ uid ≤ (st.ids : Nat) ∧ done ≤ 256 := by
  rcases h with ⟨k, o, u, d, m, ho, rfl, _, h, _⟩ | ⟨rfl, _⟩
  · have h1 := zDv (n := o.2.length) he
    have h2 := hos o (List.mem_of_getElem? ho); have h3 := h.le.2.2; refine ⟨k, d, u, rfl, by have := (List.getElem?_eq_some_iff.1 ho).1; omega, h3.2, ?_, by omega⟩
    rcases h with h | h | h
    · omega
    · exact h.2.1
    · exact h.2.1
  · exact ⟨os.length, 0, 0, rfl, Nat.le_refl _, by omega, by omega, by omega⟩
end
section
open Go.RowKit
attribute [local irreducible] zAk eV
variable {g w : World} {L M : List HP} {ad : Nat → Addr} {p u n q c : Nat} {dk : Dk} {st : St} {t : UpT} {a : S4} {ov : Bool} {V V0 V1 V2 : Vw} {osb K : List (ByteArray × List UInt8)} {cl : Bool}
def osU (t : UpT) : List (ByteArray × List UInt8) := (t.m.obs.zip t.xs).map fun p => (p.1.1, p.2.1)
structure UpOk (osb : List (ByteArray × List UInt8)) (t : UpT) : Prop where
  each : 1 ≤ t.each ∧ t.each ≤ 1000
  len : t.m.obs.length = t.xs.length
  two : t.xs.length ≤ 2
  osf : OsF osb
  sub : ∀ o ∈ osU t, o ∈ osb
  idr : 0 ≤ t.m.id ∧ t.m.id ≤ 2147483647
theorem osU_len (h : UpOk osb t) : (osU t).length = t.xs.length := by
  rw [osU, List.length_map, List.length_zip, h.len]
  omega
theorem osU_at {k : Nat} {o : ByteArray × List UInt8} (h : (osU t)[k]? = some o) : ∃ y x, t.m.obs[k]? = some y ∧ t.xs[k]? = some x ∧ o = (y.1, x.1) := by
  rw [osU, List.getElem?_map] at h; obtain ⟨⟨y, x⟩, h1, rfl⟩ := Option.map_eq_some_iff.1 h; obtain ⟨h2, h3⟩ := List.getElem?_zip_eq_some.1 h1; exact ⟨y, x, h2, h3, rfl⟩
theorem UpOk.small (h : UpOk osb t) : ∀ o ∈ osU t, o.2.length ≤ 256 := fun o ho => h.osf.len o.1 o.2 (h.sub o ho)
def GoneJ (dk : Dk) : Prop := ∃ (B : Nat) (f : ByteArray → Option (List UInt8)), RawI UpN B f dk ∧ f nUp = none
structure LgC (ad : Nat → Addr) (g : World) (t : UpT) (Lg : Nat → Vw → Nat → Nat → Nat → Dk → Prop) (V0 V1 V2 : Vw) : Prop where
  a1 : ∀ {q c n : Nat} {dk : Dk} {w : World} {M : List HP}, Lg 0 V0 q c n dk → dk.calls < 700000 → Mem g w (zDs t.l t.d 3 V0 q c n :: zB9 t.d dk :: M) → MfR g M t.m t.s1 t.s2 → Calls Tryz.prog 52 #[.pointer (some ⟨t.l, 0, none⟩), .agg (.int .i64 1 :: mfL t.m t.s1 t.s2).toArray] w (Ret fun v w' => ∃ kr dk2 V' q' c' n', v = zAk ad kr ∧ (kr = 0 ∧ V' = V1 ∧ Lg 1 V1 q' c' n' dk2 ∧ dk2.calls ≤ dk.calls + 40) ∧ Mem g w' (zDs t.l t.d 3 V' q' c' n' :: zB9 t.d dk2 :: M))
  a2 : ∀ {q c n : Nat} {dk : Dk} {w : World} {M : List HP}, Lg 1 V1 q c n dk → dk.calls < 700000 → Mem g w (zDs t.l t.d 3 V1 q c n :: zB9 t.d dk :: M) → MfR g M t.m t.s1 t.s2 → Calls Tryz.prog 52 #[.pointer (some ⟨t.l, 0, none⟩), .agg (.int .i64 2 :: mfL t.m t.s1 t.s2).toArray] w (Ret fun v w' => ∃ kr dk2 V' q' c' n', v = zAk ad kr ∧ (kr = 0 ∧ V' = V2 ∧ Lg 2 V2 q' c' n' dk2 ∧ dk2.calls ≤ dk.calls + 40) ∧ Mem g w' (zDs t.l t.d 3 V' q' c' n' :: zB9 t.d dk2 :: M))
  jw : ∀ {q c n : Nat} {dk : Dk} {s : S4}, Lg 1 V1 q c n dk → (s4L s).all inR = true → ∃ e, dk.jwrite (s4L s) = (0, e) ∧ e.calls ≤ dk.calls + 40 ∧ (e.ok → Lg 1 V1 q c n e)
  jr : ∀ {q c n : Nat} {dk : Dk}, Lg 2 V2 q c n dk → ∃ e, dk.jremove = (0, e) ∧ e.calls ≤ dk.calls + 20 ∧ (e.ok → Lg 2 V2 q c n e ∧ GoneJ e)
  s0 : V0.state t.m.id = 0
  s1 : V1.state t.m.id = 1
  s2 : V2.state t.m.id = 2
def vAt (V0 V1 V2 : Vw) : Nat → Vw | 0 => V0 | 1 => V1 | _ => V2
def StI (osb K : List (ByteArray × List UInt8)) (t : UpT) (cl : Bool) (Lg : Nat → Vw → Nat → Nat → Nat → Dk → Prop) (V0 V1 V2 : Vw) (s : Nat) (a : S4) (ov : Bool) (V : Vw) (q c n : Nat) (dk : Dk) (st : St) (M : Nat) : Prop :=
  V = vAt V0 V1 V2 s ∧ Lg s V q c n dk ∧
  ((s = 0 ∧ ov = false ∧ a = (t.m.id, 0, 0, 0) ∧ PIn osb K st ∧ (cl = true → st.script = [] ∧ st.ups = []) ∧ M = restM t.each (osU t) + 2) ∨
   (s = 1 ∧ ov = false ∧ ∃ M0, ObI osb K (osU t) t.each t.m.id cl a st M0 ∧ M = M0 + 1) ∨
   (s = 2 ∧ ov = true ∧ PIn osb (K ++ osU t) st ∧ (∀ o ∈ osU t, zAx st.objs o.1 = some o.2) ∧ (cl = true → st.script = [] ∧ st.ups = []) ∧ M = 0 ∧ GoneJ dk))
def uLeft (s : Nat) (st : St) (M : Nat) : Nat := if s = 2 then 0 else tLeft st (M - (2 - s)) + (2 - s)
theorem uLeft0 (st : St) (M : Nat) : uLeft 0 st M = tLeft st (M - 2) + 2 := rfl
theorem uLeft1 (st : St) (M : Nat) : uLeft 1 st M = tLeft st (M - 1) + 1 := rfl
theorem uLeft2 (st : St) (M : Nat) : uLeft 2 st M = 0 := rfl
def Bnd (cb ak : Nat) (st : St) (dk : Dk) : Prop := st.calls ≤ cb ∧ st.failed ≤ cb ∧ st.ids ≤ cb ∧ ak ≤ cb ∧ dk.calls ≤ cb
set_option maxHeartbeats 1000000 in
theorem upStep (hE : ErrU ad g) (hU : UpOk osb t) (hK : ∀ x ∈ K, x ∈ osb) {Lg : Nat → Vw → Nat → Nat → Nat → Dk → Prop} (hL : LgC ad g t Lg V0 V1 V2) {s tr ak cb M0 : Nat} (hI : StI osb K t cl Lg V0 V1 V2 s a ov V q c n dk st M0) (hB : Bnd cb ak st dk) (hcb : cb ≤ 500000) (htr : tr + 1 ≤ 8)
    (hs : Mem g w (UpC u t a ov :: zBh t.c p ((tr + 1 : Nat) : Int) (ak : Nat) :: zB8 p st :: zDs t.l t.d 3 V q c n :: zB9 t.d dk :: L)) :
    Calls Tryz.prog 16 #[.pointer (some ⟨u, 0, none⟩)] w (Ret fun v w' => ∃ (is : Bool) (y s' : Nat) (a' : S4) (ov' : Bool) (V' : Vw) (q' c' n' : Nat) (dk' : Dk) (st' : St) (ak' M' : Nat), v = .tuple #[.bool is, zAk ad y] ∧ StI osb K t cl Lg V0 V1 V2 s' a' ov' V' q' c' n' dk' st' M' ∧ Bnd (cb + 100) ak' st' dk' ∧
      (y = 0 ∨ y = 111 ∧ is = false ∧ V' = V ∧ s' = s ∧ st.script ≠ []) ∧ is = decide (s' = 2) ∧ (s ≤ s' ∧ (st.script = [] → st'.script = [])) ∧ (s ≠ 2 → uLeft s' st' M' < uLeft s st M0) ∧ (cl = true → y = 0 ∧ M' = M0 - 1) ∧
      Mem g w' (UpC u t a' ov' :: zBh t.c p ((tr + 1 : Nat) : Int) (ak' : Nat) :: zB8 p st' :: zDs t.l t.d 3 V' q' c' n' :: zB9 t.d dk' :: L)) := by
  obtain ⟨b1, b2, b3, b4, b5⟩ := hB; obtain ⟨hV, hlg, hI⟩ := hI; have hol := osU_len hU; have htwo := hU.two
  rcases hI with ⟨rfl, rfl, rfl, hp, hcl, rfl⟩ | ⟨rfl, rfl, M1, hob, rfl⟩ | ⟨rfl, rfl, hp, hob, hcl, rfl, hgj⟩
  · have hV : V = V0 := hV
    subst hV; refine (step_first (R := fun kr dk2 V' q' c' n' => kr = 0 ∧ V' = V1 ∧ Lg 1 V1 q' c' n' dk2 ∧ dk2.calls ≤ dk.calls + 40) hL.s0 (fun hs hm => hL.a1 hlg (by omega) hs hm) (hs.arr [0, 3, 4, 1, 2] 5 (by decide))).mono ?_; rintro _ w' ⟨v, rfl, kr, dk2, V', q', c', n', rfl, ⟨rfl, rfl, hl2, hc2⟩, hs⟩; refine ⟨_, rfl, false, 0, 1, _, false, _, q', c', n', dk2, st, ak, restM t.each (osU t) + 1, rfl, ⟨rfl, hl2, .inr (.inl ⟨rfl, rfl, _, ObI.at (k := 0) (by rw [List.take_zero, List.append_nil]; exact hp) (Nat.zero_le _) hcl, rfl⟩)⟩, ⟨by omega, by omega, by omega, by omega, by omega⟩, .inl rfl, rfl, ⟨by omega, id⟩, fun _ => ?_, fun _ => ⟨rfl, rfl⟩, hs.arr [0, 3, 4, 1, 2] 5 (by decide)⟩
    rw [uLeft0, uLeft1]; simp only [Nat.add_sub_cancel]
    omega
  · have hV : V = V1 := hV
    subst hV
    have hst : V.state t.m.id ≠ 0 := by rw [hL.s1]; decide
    have hM1 := hob.le hU.each.1 hU.small (by omega)
    by_cases hk : a.2.1 < (t.xs.length : Nat)
    · obtain ⟨k, done, uid, rfl, f1, f2, f3, f4⟩ := hob.form hU.each.1 hU.small
      have hk : (k : Int) < (t.xs.length : Nat) := hk; obtain ⟨o, m, ho, hp, hph, hnx⟩ := ObI.next (t := tr + 1) hU.each.1 hU.small (by omega) hob (by omega); obtain ⟨yo, x, hy, hx, rfl⟩ := osU_at ho; have hom := List.mem_of_getElem? ho
      have hKk : ∀ z ∈ K ++ (osU t).take k, z ∈ osb := fun z hz => by
        rcases List.mem_append.1 hz with h | h
        · exact hK z h
        · exact hU.sub z (List.mem_of_mem_take h)
      refine (step_obj (Q := fun kk w' => ∃ (a' : S4) (dk' : Dk) (st' : St) (ak' M' : Nat), (kk = 0 ∨ kk = 111 ∧ st.script ≠ []) ∧ ObI osb K (osU t) t.each t.m.id cl a' st' M' ∧ tLeft st' M' < tLeft st M1 ∧ (cl = true → kk = 0 ∧ M' + 1 = M1) ∧ Lg 1 V q c n dk' ∧ (Bnd (cb + 100) ak' st' dk' ∧ (st.script = [] → st'.script = [])) ∧ Mem g w' (UpC u t a' false :: zBh t.c p ((tr + 1 : Nat) : Int) (ak' : Nat) :: zB8 p st' :: zDs t.l t.d 3 V q c n :: zB9 t.d dk' :: L)) (ev := 3) hE hst hk (fun w hs => ?_) (hs.arr [0, 3, 1, 2, 4] 5 (by decide))).mono ?_
      · refine (object_sl (p := p) (st := st) (dk := dk) (tr := tr + 1) (ak := ak) (J := fun s j e => j = 0 ∧ e.calls ≤ dk.calls + 40 ∧ (e.ok → Lg 1 V q c n e)) (R := fun id' done' is y st' a' => a' ≤ ak + 2 * (tr + 1) ∧ PResG osb (K ++ (osU t).take k) yo.1 x.1 t.each (tr + 1) uid done st m id' done' is y st') hE hx hy (fun hs hr => (ps_gen hE.uG hU.osf (hU.sub _ hom) hKk hU.each.1 hU.each.2 htr hp hph (by omega) (by omega) (by omega) (by omega) hs hr).mono ?_) ?_ hU.idr (by omega) (by omega) (fun s hs => ?_) (hs.arr [0, 2, 3, 4, 1] 5 (by decide))).mono ?_
        · rintro _ w' ⟨v, rfl, id', done', is, z, st', a', e1, e2, e3, hs⟩
          exact ⟨v, rfl, id', done', is, z, st', a', e1, ⟨e2, e3⟩, hs⟩
        · rintro id' done' is z st' a' ⟨_, hr⟩
          obtain ⟨r1, r2, r3, r4, r5, r6⟩ := hr
          rcases r6 with ⟨rfl, rfl, rfl, rfl, _⟩ | ⟨rfl, rfl, m', hm', _⟩ | ⟨rfl, rfl, _⟩
          · exact ⟨.inr rfl, fun _ => ⟨f2, by omega, by omega⟩⟩
          · have h1 := hm'.le
            have h2 := zDv (n := x.1.length) hU.each.1; have h3 := hU.small _ hom; simp only at h3; refine ⟨.inl rfl, fun _ => ⟨h1.2.2.2, ?_, by omega⟩⟩
            rcases hm' with h | h | h
            · omega
            · have := h.2.1; omega
            · have := h.2.1; omega
          · exact ⟨.inl rfl, fun h => by cases h⟩
        · obtain ⟨e, h1, h2, h3⟩ := hL.jw hlg hs
          exact ⟨0, e, h1, .inl rfl, rfl, h2, h3⟩
        · rintro _ w' ⟨v, rfl, id', done', is, z, st', a', ⟨ha', hr⟩, hs⟩
          obtain ⟨r1, r2, r3, r4, r5, r6⟩ := id hr
          rcases hs with ⟨hz, rfl, hs⟩ | ⟨rfl, s, j, e, rfl, ⟨rfl, hc2, hl2⟩, hjw, hin, rfl, hs⟩
          · rcases hnx id' done' is z st' hr with ⟨rfl, hn, M', hM', hlt⟩ | ⟨rfl, _⟩
            · exact ⟨_, rfl, 111, rfl, _, dk, st', a', M', .inr ⟨rfl, hn⟩, hM', hlt, fun hl => absurd (r6.elim (fun h => by
                rcases hob with ⟨_, _, _, _, _, _, ha, _, _, _, hc⟩ | ⟨_, _, _, hc⟩
                · exact (hc hl).1
                · exact (hc hl).1) fun h => by rcases h with ⟨h, _⟩ | ⟨h, _⟩ <;> cases h) hn, hlg, ⟨⟨by omega, by omega, by omega, by omega, by omega⟩, zFo r5⟩, hs.arr [0, 1, 2, 4, 3] 5 (by decide)⟩
            · exact absurd rfl hz
          · rcases hnx id' done' is 0 st' hr with ⟨h, _⟩ | ⟨_, M', hM', hlt, hcM, _⟩
            · cases h
            · rw [if_pos rfl] at hs
              have hl3 := hl2 ((hs.arr [3] 4 (by decide)).openD).1; exact ⟨_, rfl, 0, rfl, _, e, st', a', M', .inl rfl, hM', hlt, fun hl => ⟨rfl, hcM hl⟩, hl3, ⟨⟨by omega, by omega, by omega, by omega, by omega⟩, zFo r5⟩, hs.arr [0, 1, 2, 4, 3] 5 (by decide)⟩
      · rintro _ w' ⟨v, rfl, kk, rfl, a', dk', st', ak', M', hkk, hob', hlt, hcM, hl', hb', hs⟩
        refine ⟨_, rfl, false, kk, 1, a', false, V, q, c, n, dk', st', ak', M' + 1, rfl, ⟨rfl, hl', .inr (.inl ⟨rfl, rfl, M', hob', rfl⟩)⟩, hb'.1, hkk.imp (fun h => h) fun h => ⟨h.1, rfl, rfl, rfl, h.2⟩, rfl, ⟨Nat.le_refl _, hb'.2⟩, fun _ => ?_, fun hl => ⟨(hcM hl).1, by have := (hcM hl).2; omega⟩, hs⟩; rw [uLeft1, uLeft1]; simp only [Nat.add_sub_cancel]
        omega
    · obtain ⟨rfl, hp, hobs, rfl, hcl⟩ := hob.end_ (by rw [hol]; exact hk)
      refine (step_last (R := fun kr dk2 V' q' c' n' => kr = 0 ∧ V' = V2 ∧ Lg 2 V2 q' c' n' dk2 ∧ dk2.calls ≤ dk.calls + 40) hE hst hk (fun hs hm => hL.a2 hlg (by omega) hs hm) (fun h => by have := h.2.2.2; omega) (hs.arr [0, 3, 4, 1, 2] 5 (by decide))).mono ?_; rintro _ w' ⟨v, rfl, kr, dk2, V', q', c', n', ⟨rfl, rfl, hl2, hc2⟩, ⟨h, _⟩ | ⟨_, j, e, hj, rfl, hs⟩⟩
      · exact absurd rfl h
      · obtain ⟨e', h1, h2, h3⟩ := hL.jr hl2
        rw [h1] at hj
        cases hj
        have hl3 := h3 ((hs.arr [2] 3 (by decide)).openD).1; refine ⟨_, rfl, true, 0, 2, _, true, _, q', c', n', _, st, ak, 0, rfl, ⟨rfl, hl3.1, .inr (.inr ⟨rfl, rfl, hp, hobs, hcl, rfl, hl3.2⟩)⟩, ⟨by omega, by omega, by omega, by omega, by omega⟩, .inl rfl, rfl, ⟨by omega, id⟩, fun _ => ?_, fun _ => ⟨rfl, rfl⟩, hs.arr [0, 3, 4, 1, 2] 5 (by decide)⟩; rw [uLeft1, uLeft2]
        omega
  · refine (step_over (ev := 3) (hs.arr [0, 3, 1, 2, 4] 5 (by decide))).mono ?_
    rintro _ w' ⟨v, rfl, rfl, hs⟩; exact ⟨_, rfl, true, 0, 2, a, true, V, q, c, n, dk, st, ak, 0, by rw [zB], ⟨hV, hlg, .inr (.inr ⟨rfl, rfl, hp, hob, hcl, rfl, hgj⟩)⟩, ⟨by omega, by omega, by omega, by omega, by omega⟩, .inl rfl, rfl, ⟨Nat.le_refl _, id⟩, fun h => absurd rfl h, fun _ => ⟨rfl, rfl⟩, hs.arr [0, 2, 3, 1, 4] 5 (by decide)⟩
end
section
open Go.RowKit
attribute [local irreducible] zAk eV
variable {g w : World} {L M : List HP} {ad : Nat → Addr} {p u d l c n q cc : Nat} {dk : Dk} {V : Vw}
def obCk (o : Ob) (b : List UInt8) : Nat := if ((b.length : Nat) : Int) ≠ o.2.1 then 103 else if zC4 0 b ≠ o.2.2 then 102 else 0
theorem check_sl (hE : ErrU ad g) (hs : Mem g w L) {o : Ob} {a : Option Addr} {c : Nat} {b : List UInt8} (hr : Rd g L (.slice a b.length c) (zAn b)) (hl : b.length ≤ 1048576) : Calls Tryz.prog 47 #[.agg (obL o).toArray, .slice a b.length c] w (Ret fun v w' => v = zAk ad (obCk o b) ∧ Mem g w' L) := by
  refine zAh Tryz.func47 rfl rfl ?_
  refine zA4 (zA2 (zBp (v := .agg _) hs rfl rfl ?_)); clear hs; intro b2 w hs
  try simp only [zzs, zzz] at hs
  refine J3 rfl (zA6 (zA4 (zA4 (zA2 (J7 rfl (Js zC6 rfl (Jp (o' := 1) zG2 rfl sz3 rfl rfl rfl (Qc uz3 rfl hs 0 rfl rfl (Qa (zDy rfl rfl) (zA6 (zB2 rfl ?_ ?_)))))))))))
  ·
   intro h9; have g9 := zFj h9; refine zA4 (zA2 (Jq zCq rfl rfl (hE.cellW hs 103 (by decide) rfl) (J6 rfl (zA6 (zAe (zBi (v := zAk ad _) rfl rfl ?_)))))); exact ⟨_, rfl, by rw [obCk, if_pos (by omega)], hs.tail⟩
  ·
   intro h9; have g9 := zFi h9; refine zAd (zA4 (zA4 (zAq zBk hs ?_))); intro w tr hK; replace hs := tr _ hs; clear tr; refine Q3 0 rfl rfl hK (Q6 3 rfl (o' := 2) zG2 rfl sz64 rfl rfl rfl hK (Qd 4 rfl uz64 rfl (fun w hs => hs.cellAt 0 rfl rfl) hK (zAc [1] ⟨⟨_, rfl, ?_⟩, trivial⟩))); refine zB4 hs rfl ([.slice a b.length c]) uz62 zs22 rfl (by simp [Value.cells]) rfl rfl rfl ?_; clear hs; intro b12 w hs
   try simp only [zzs, zzz] at hs
   clear hK; have hK := hs.tail; refine zA6 ⟨hK, ?_⟩; refine zAc [2] ⟨⟨_, rfl, ?_⟩, trivial⟩; refine Qg en88 (of_sl hs (Rd.cells 0 rfl rfl) hr.cons.cons (by omega)) ?_; clear hs; rintro _ w ⟨rfl, hs⟩; clear hK; have hK := hs.tail; refine zA6 ⟨hK, ?_⟩; refine Qb 5 rfl (fun w hs => zDy rfl rfl) hK (zAs (by kernel_rfl) ?_); clear hK; refine zB2 rfl ?_ ?_
   ·
    intro h16; have g16 := zFj h16; refine zA4 (zA2 (Jq zCq rfl rfl (hE.cellW hs 102 (by decide) rfl) (J6 rfl (zA6 (zAe (zBi (v := zAk ad _) rfl rfl ?_)))))); exact ⟨_, rfl, by rw [obCk, if_neg (by omega), if_pos (by omega)], hs.tail.tail⟩
   ·
    intro h16; have g16 := zFi h16; refine zAd (zA4 (zA2 (J3 rfl (zA6 (zAe (zBi (v := .nilIface) rfl rfl ?_)))))); exact ⟨_, rfl, by rw [obCk, if_neg (by omega), if_neg (by omega), zB], hs.tail.tail⟩
def obG (each : Int) (o : Ob) (b : List UInt8) : Nat := if obCk o b ≠ 0 then obCk o b else (mkR o.1 b each).1
def upG (each : Int) : Nat → List Ob → List (List UInt8) → Flt
  | i, o :: os, b :: bs => if obG each o b ≠ 0 then (obG each o b, some i) else upG each (i + 1) os bs
  | _, _, _ => (0, none)
def upF (each : Int) (m : Mf) (bs : List (List UInt8)) : Flt := if each < 1 ∨ 1048576 < each then (105, none) else if (mfF m).1 ≠ 0 then mfF m else if bs.length ≠ m.obs.length then (103, none) else upG each 0 m.obs bs
theorem upG_at {each : Int} {os : List Ob} {bs : List (List UInt8)} {k : Nat} {o : Ob} {b : List UInt8} (h1 : os[k]? = some o) (h2 : bs[k]? = some b) : upG each k (os.drop k) (bs.drop k) = if obG each o b ≠ 0 then (obG each o b, some k) else upG each (k + 1) (os.drop (k + 1)) (bs.drop (k + 1)) := by
  obtain ⟨h3, rfl⟩ := List.getElem?_eq_some_iff.1 h1; obtain ⟨h4, rfl⟩ := List.getElem?_eq_some_iff.1 h2; rw [List.drop_eq_getElem_cons h3, List.drop_eq_getElem_cons h4, upG]
theorem mkR_ok {nm nm' : ByteArray} {l : List UInt8} {E : Nat} {sz sm ea pa : Int} (h : mkR nm l E = (0, nm', sz, sm, ea, pa)) : nm' = nm ∧ sz = (l.length : Nat) ∧ sm = (zC4 0 l : Nat) ∧ ea = (E : Nat) ∧ pa = (zBb l.length E : Nat) := by
  unfold mkR at h
  split at h
  · cases h
  · split at h
    · cases h
    · split at h
      · cases h
      · simp only [Prod.mk.injEq, true_and, Int.toNat_natCast] at h
        obtain ⟨rfl, rfl, rfl, rfl, rfl⟩ := h; exact ⟨rfl, rfl, rfl, rfl, rfl⟩
theorem fill_up (d l c : Nat) (k a b t : Int) (s1 s2 : SA) (n m : Nat) : Instr.fill ((#[(0, 1), (1, 1), (2, 1), (3, 6), (9, 1), (10, 1), (11, 4), (15, 1)] : Array (Nat × Nat))[·]?) #[.pointer none, .pointer none, .pointer none, .int .i64 0, .int .i64 0, .int .i64 0, .int .i64 0, .slice none 0 0, .slice none 0 0, .slice none 0 0, .slice none 0 0, .int .i64 0, .int .i64 0, .int .i64 0, .int .i64 0, .bool false]
    [(0, .pointer (some ⟨d, 0, none⟩)), (1, .pointer (some ⟨l, 0, none⟩)), (2, .pointer (some ⟨c, 0, none⟩)), (3, .agg #[.int .i64 k, .int .i64 a, .int .i64 b, .int .i64 t, .slice s1.1 n s1.2, .slice s2.1 m s2.2]), (6, .agg #[.int .i64 k, .int .i64 0, .int .i64 0, .int .i64 0])] = some #[.pointer (some ⟨d, 0, none⟩), .pointer (some ⟨l, 0, none⟩), .pointer (some ⟨c, 0, none⟩), .int .i64 k, .int .i64 a, .int .i64 b, .int .i64 t, .slice s1.1 n s1.2, .slice s2.1 m s2.2, .slice none 0 0, .slice none 0 0, .int .i64 k, .int .i64 0, .int .i64 0, .int .i64 0, .bool false] := by kernel_rfl
def upZ (d l c E : Nat) (m : Mf) (s1 s2 : SA) : UpT := ⟨d, l, c, m, s1, s2, E, [], (none, 0), (none, 0)⟩
theorem run_buildUp {ρ : Env} {dst : Option Tmp} {ty : TypeId} {pos : String} {aft : Array Edge} {x0 x1 x2 x3 x6 : Operand} {P : Program} {t : TypeId} {fs : Array Field} {E : Nat} {m : Mf} {e o : SA} (ht : P.underlying t = some (.struct fs)) (hz : (P.info? t).map (·.zero) = some (some (.agg #[.pointer none, .pointer none, .pointer none, .int .i64 0, .int .i64 0, .int .i64 0, .int .i64 0, .slice none 0 0, .slice none 0 0, .slice none 0 0, .slice none 0 0, .int .i64 0, .int .i64 0, .int .i64 0, .int .i64 0, .bool false])))
    (hp : ∀ w, (fs.mapM (m := Sem) fun f => do pure (f.offset, ← sizeOf f.type)).run P w = .ok #[(0, 1), (1, 1), (2, 1), (3, 6), (9, 1), (10, 1), (11, 4), (15, 1)] w) (h0 : ev ρ x0 = .pointer (some ⟨d, 0, none⟩)) (h1 : ev ρ x1 = .pointer (some ⟨l, 0, none⟩)) (h2 : ev ρ x2 = .pointer (some ⟨c, 0, none⟩)) (h3 : ev ρ x3 = .agg (mfL m e o).toArray) (h6 : ev ρ x6 = .agg (s4V (m.id, 0, 0, 0)).toArray) :
    (execOp (ev ρ) ⟨dst, .build t #[(0, x0), (1, x1), (2, x2), (3, x3), (6, x6)], ty, pos, aft, none⟩).run P w = .ok (.value (.agg (upL (upZ d l c E m e o) (m.id, 0, 0, 0) false).toArray)) w := by
  refine zBw (ps := [(0, x0), (1, x1), (2, x2), (3, x3), (6, x6)]) ht hz hp ?_; simp only [List.map_cons, List.map_nil, h0, h1, h2, h3, h6]; exact fill_up d l c m.id m.base m.fin m.time e o _ _
def fitsB (E : Nat) (bs : List (List UInt8)) (a : S4) : Bool := if (bs.length : Int) ≤ a.2.1 then decide (a.2.1 = bs.length) && decide (a.2.2.2 = 0) else decide (a.2.2.2 ≤ (zBb (bs[a.2.1.toNat]?.getD []).length E : Nat))
set_option maxHeartbeats 1000000 in
theorem fits_sl {t : UpT} {a z : S4} {ov : Bool} (hs : Mem g w (ucO u t a ov L)) (hlen : t.m.obs.length = t.xs.length) (hz : 0 ≤ z.2.1) : Calls Tryz.prog 51 #[.pointer (some ⟨u, 0, none⟩), .agg (s4V z).toArray] w (Ret fun v w' => v = .bool (fitsB t.each (t.xs.map (·.1)) z) ∧ Mem g w' (ucO u t a ov L)) := by
  obtain ⟨td, tl, tc, tm, s1, s2, te, xs, ⟨a3, c3⟩, ⟨a4, c4⟩⟩ := t; obtain ⟨z1, z2, z3, z4⟩ := z; simp only at hlen hz hs ⊢; obtain ⟨k, rfl⟩ : ∃ k : Nat, z2 = k := ⟨z2.toNat, by omega⟩; refine zAh Tryz.func51 rfl rfl ?_
  refine zA4 (zA2 (zBp (v := .agg _) hs rfl rfl ?_)); clear hs; intro b3 w hs
  try simp only [zzs, zzz] at hs
  refine J5 rfl (zA6 (zA4 (zA4 (zAq zBk hs ?_)))); intro w tr hK; replace hs := tr _ hs; clear tr; refine Q6 0 rfl (o' := 1) zDg rfl sz3 rfl rfl rfl hK (Qd 1 rfl uz3 rfl (fun w hs => hs.cellAt 0 rfl rfl) hK (Q0 2 rfl rfl hK (Q7 3 rfl rfl hK (Q6 4 rfl (o' := 10) zDf rfl sz104 rfl rfl rfl hK (Qd 5 rfl zDt rfl (fun w hs => hs.cellAt 1 rfl rfl) hK (Qb 6 rfl (fun w hs => zAu zDt rfl) hK ?_))))))
  refine Qb 7 rfl (fun w hs => zD5 rfl rfl) hK (zAs (by kernel_rfl) ?_); clear hK; refine zB2 rfl ?_ ?_
  ·
   intro h12; have g12 := of_decide_eq_true h12; simp only at g12; refine zA4 (zAq zBk hs ?_); intro w tr hK; replace hs := tr _ hs; clear tr; refine Q6 0 rfl (o' := 1) zDg rfl sz3 rfl rfl rfl hK (Qd 1 rfl uz3 rfl (fun w hs => hs.cellAt 0 rfl rfl) hK (Q0 2 rfl rfl hK (Q7 3 rfl rfl hK (Q6 4 rfl (o' := 10) zDf rfl sz104 rfl rfl rfl hK (Qd 5 rfl zDt rfl (fun w hs => hs.cellAt 1 rfl rfl) hK (Qb 6 rfl (fun w hs => zAu zDt rfl) hK ?_))))))
   refine Qb 7 rfl (fun w hs => zBq rfl rfl) hK (Q4 8 rfl (v := .bool _) rfl hK (zGu (t := _) (d := 21) rfl ?_ ?_))
   ·
    intro h20; have g20 := of_decide_eq_true h20; refine zAi 9 rfl rfl rfl rfl h20 (fun w hs => zA5 (o' := 3) zDg rfl sz3 rfl rfl rfl) hK (zAi 10 rfl rfl rfl rfl h20 (fun w hs => zA7 uz3 rfl rfl (hs.cellAt 0 rfl rfl)) hK (zAi 11 rfl rfl rfl rfl h20 (fun w hs => zBq rfl rfl) hK (Qb 12 rfl (fun w hs => zAj (v := .bool _) rfl h20 rfl) hK (Q5 13 rfl (v := .bool _) rfl hK (zAs (by kernel_rfl) ?_))))); clear hK; refine zAe (zBi (v := .bool _) rfl rfl ?_); exact ⟨_, rfl, by simp only [fitsB, List.length_map]; rw [if_pos (by omega)]; simp [*], hs.tail⟩
   ·
    intro h20; have g20 := of_decide_eq_false h20; refine zAf 9 rfl rfl rfl rfl h20 hK (zAf 10 rfl rfl rfl rfl h20 hK (zAf 11 rfl rfl rfl rfl h20 hK (Qb 12 rfl (fun w hs => zAg (v := .bool _) rfl h20 rfl) hK (Q5 13 rfl (v := .bool _) rfl hK (zAs (by kernel_rfl) ?_))))); clear hK; refine zAe (zBi (v := .bool _) rfl rfl ?_); exact ⟨_, rfl, by simp only [fitsB, List.length_map]; rw [if_pos (by omega)]; simp [*], hs.tail⟩
  ·
   intro h12; have g12 := of_decide_eq_false h12; simp only at g12; obtain ⟨x, hx⟩ : ∃ x, xs[k]? = some x := ⟨_, List.getElem?_eq_getElem (by omega)⟩; obtain ⟨o, ho⟩ : ∃ o, tm.obs[k]? = some o := ⟨_, List.getElem?_eq_getElem (by omega)⟩; have hpl := plansL_at (each := te) ho hx; obtain ⟨bp, op, rfl⟩ := (RdK.row 5 rfl : RdK g _ 5 (.slice a4 xs.length c4) (zCo te tm.obs xs)).at hs (by rw [zCo, List.length_map, List.length_zip]; omega); refine zAd (zA4 (zAq zBk hs ?_)); intro w tr hK; replace hs := tr _ hs; clear tr; refine Q6 0 rfl (o' := 3) zDg rfl sz3 rfl rfl rfl hK (Qd 1 rfl uz3 rfl (fun w hs => hs.cellAt 0 rfl rfl) hK ?_)
   refine Q0 2 rfl rfl hK (Q7 3 rfl rfl hK (Q6 4 rfl (o' := 10) zDf rfl sz104 rfl rfl rfl hK (Qd 5 rfl zDt rfl (fun w hs => hs.cellAt 1 rfl rfl) hK (Q6 6 rfl (o' := 1) zDg rfl sz3 rfl rfl rfl hK (Qd 7 rfl uz3 rfl (fun w hs => hs.cellAt 0 rfl rfl) hK (Qb 8 rfl (fun w hs => zAy zDt zGh rfl rfl (i := k) rfl (show k < xs.length by omega) rfl) hK (Q6 9 rfl zEm rfl sz3 rfl rfl rfl hK ?_)))))))
   refine Qd 10 rfl uz3 rfl (fun w hs => (RdK.row (k := 5) (v := .slice (some ⟨bp, op, none⟩) xs.length c4) (rows := zCo te tm.obs xs) 5 rfl).cell hs hpl (j := 4) rfl) hK (Qb 11 rfl (fun w hs => zE8 rfl rfl) hK (Q5 12 rfl (v := .bool _) rfl hK (zAs (by kernel_rfl) ?_))); clear hK; refine zAe (zBi (v := .bool _) rfl rfl ?_); exact ⟨_, rfl, by show Value.bool (decide (z4 ≤ ((zBb x.1.length te : Nat) : Int))) = .bool (fitsB te (xs.map (·.1)) (z1, (k : Int), z3, z4)); rw [fitsB, if_neg (by simp only [List.length_map]; omega)]; simp only [Int.toNat_natCast, List.getElem?_map, hx]; rfl, hs.tail⟩
end
section
open Go.RowKit
attribute [local irreducible] zAk eV
variable {g w : World} {L M : List HP} {ad : Nat → Addr} {p u d l c ev n q cc : Nat} {dk : Dk} {V : Vw}
theorem zsPl : (Tryz.prog.info? 109).map (fun i => (i.zero, i.size)) = some (some (.agg #[.string ByteArray.empty, .int .i64 0, .int .u32 0, .int .i64 0, .int .i64 0]), 5) := by kernel_rfl
theorem fill_plan (nm : ByteArray) (a b e f : Int) : Instr.fill (fun i => some (i * 5, 5)) ((Array.range (1 * 5)).map ((Value.agg #[.string ByteArray.empty, .int .i64 0, .int .u32 0, .int .i64 0, .int .i64 0]).cells[· % (Value.agg #[.string ByteArray.empty, .int .i64 0, .int .u32 0, .int .i64 0, .int .i64 0]).cells.size]!)) [(0, .agg (planC nm a b e f).toArray)] = some (planC nm a b e f).toArray := by kernel_rfl
def upTo (d l c E : Nat) (m : Mf) (s1 s2 : SA) (x : Nat × List (List UInt8 × SA) × SA × SA) : UpT := ⟨d, l, c, m, s1, s2, E, x.2.1, x.2.2.1, x.2.2.2⟩
def NewR (ad : Nat → Addr) (g : World) (each : Int) (m : Mf) (bs : List (List UInt8)) (V : Vw) (d l c : Nat) (is : Bool) (z : S4) (R : List HP) (v : Value) (w' : World) : Prop :=
  ((upF each m bs).1 ≠ 0 ∧ ∃ eb, v = .tuple #[.pointer none, flV ad (upF each m bs) eb] ∧ Mem g w' (flC ad (upF each m bs) eb :: R)) ∨
  ((upF each m bs).1 = 0 ∧ 2 ≤ V.state m.id ∧ v = .tuple #[.pointer none, zAk ad 113] ∧ Mem g w' R) ∨
  ((upF each m bs).1 = 0 ∧ V.state m.id < 2 ∧ ∃ u s1 s2 xs s3 s4, v = .tuple #[.pointer (some ⟨u, 0, none⟩), .nilIface] ∧ xs.map (·.1) = bs ∧ Mem g w' (UpC u ⟨d, l, c, m, s1, s2, each.toNat, xs, s3, s4⟩ (if is = true ∧ z.1 = m.id ∧ V.state m.id = 1 ∧ fitsB each.toNat bs z = true then z else (m.id, 0, 0, 0)) false :: R))
theorem Mem.noPlans {b E : Nat} {m : Mf} {s1 s2 : SA} {L : List HP} (hs : Mem g w (cells b (upL (upZ d l c E m s1 s2) (m.id, 0, 0, 0) false) 106 :: zE0 2 (.slice s1.1 m.eps.length s1.2) (m.eps.map prL) :: zE0 3 (.slice s2.1 m.obs.length s2.2) (m.obs.map obL) :: own (.slice none 0 0) [] :: zE0 5 (.slice none 0 0) [] :: Go.Proofs.YthejaanobeonnaaGreatDoor.stars [] :: L)) : Mem g w (ucO b (upTo d l c E m s1 s2 (0, [], (none, 0), (none, 0))) (m.id, 0, 0, 0) false L) := by
  have h0 : zCo E m.obs [] = [] := by simp [zCo]
  show Mem g w (upP b (upTo d l c E m s1 s2 (0, [], (none, 0), (none, 0))) (m.id, 0, 0, 0) false :: zE0 2 (.slice s1.1 m.eps.length s1.2) (m.eps.map prL) :: zE0 3 (.slice s2.1 m.obs.length s2.2) (m.obs.map obL) :: own (.slice none 0 0) [] :: zE0 5 (.slice none 0 0) (zCo E m.obs []) :: Go.Proofs.YthejaanobeonnaaGreatDoor.stars [] :: L)
  rw [h0]; exact hs
theorem zip_snoc {α β : Type} {o : α} {z : β} : ∀ {os : List α} {xs : List β}, os[xs.length]? = some o → os.zip (xs ++ [z]) = os.zip xs ++ [(o, z)]
  | [], _, h => by simp at h
  | a :: os, [], h => by simp at h; subst h; simp
  | a :: os, x :: xs, h => by
    have h : os[xs.length]? = some o := by simpa using h
    simp [zip_snoc h]
theorem plans_more {E : Nat} {os : List Ob} {xs : List (List UInt8 × SA)} {o : Ob} {z : List UInt8 × SA} (h : os[xs.length]? = some o) : zCo E os xs ++ [zEx E o z.1] = zCo E os (xs ++ [z]) := by
  unfold zCo
  rw [zip_snoc h, List.map_append]
  rfl
theorem Mem.moreUp {b E k n3 n4 : Nat} {m : Mf} {s1 s2 b3 b4 c3 c4 : SA} {xs : List (List UInt8 × SA)} {z : List UInt8 × SA} {R : List HP} {R3 : List Value} {R5 : List (List Value)} (h3 : n3 = (xs ++ [z]).length) (h4 : n4 = (xs ++ [z]).length) (h5 : R5 = zCo E m.obs (xs ++ [z])) (h6 : R3 = (xs ++ [z]).map bV)
    (hs : Mem g w (Go.Proofs.YthejaanobeonnaaGreatDoor.stars ((xs ++ [z]).map bC) :: cells b (((upL (upTo d l c E m s1 s2 (k, xs, c3, c4)) (m.id, 0, 0, 0) false).set 10 (.slice b4.1 n4 b4.2)).set 9 (.slice b3.1 n3 b3.2)) 106 :: zE0 2 (.slice s1.1 m.eps.length s1.2) (m.eps.map prL) :: zE0 3 (.slice s2.1 m.obs.length s2.2) (m.obs.map obL) :: own (.slice b3.1 n3 b3.2) R3 :: zE0 5 (.slice b4.1 n4 b4.2) R5 :: R)) : Mem g w (ucO b (upTo d l c E m s1 s2 (k + 1, xs ++ [z], b3, b4)) (m.id, 0, 0, 0) false R) := by
  subst h3 h4 h5 h6; exact hs.arr [1, 2, 3, 4, 5, 0] 6 (by decide)
abbrev newH (A B C : HP) (t : UpT) (L : List HP) : List HP := A :: B :: zE0 2 (.slice t.s1.1 t.m.eps.length t.s1.2) (t.m.eps.map prL) :: zE0 3 (.slice t.s2.1 t.m.obs.length t.s2.2) (t.m.obs.map obL) :: stars (t.xs.map bC) :: C :: L
set_option maxRecDepth 100000 in
set_option maxHeartbeats 4000000 in
theorem upNew_sl (hE : ErrU ad g) (hs : Mem g w (zDs l d ev V q cc n :: zB9 d dk :: L)) {each : Int} (hea : zDo each) {m : Mf} {e o : SA} (hm : MfR g L m e o) (hob : m.obs.length ≤ 1000000) (heps : (mfF m).1 = 0 → m.eps.length ≤ 1000000) {ab : Option Addr} {cb : Nat} {bl : List (List UInt8 × SA)} (hb : Rd g L (.slice ab bl.length cb) (bl.map bV)) (hbr : ∀ x ∈ bl, Rd g L (bV x) (zAn x.1)) (hbl : ∀ x ∈ bl, x.1.length ≤ 1048576) {is : Bool} {z : S4} (hj : jst (dk.pread nUp) = (0, is, z.1, z.2.1, z.2.2.1, z.2.2.2)) (hz : 0 ≤ z.2.1) :
    Calls Tryz.prog 15 #[.pointer (some ⟨d, 0, none⟩), .pointer (some ⟨l, 0, none⟩), .pointer (some ⟨c, 0, none⟩), .int .i64 each, .agg (mfL m e o).toArray, .slice ab bl.length cb] w (Ret (NewR ad g each m (bl.map (·.1)) V d l c is z (zDs l d ev V q cc n :: zB9 d dk :: L))) := by
  obtain ⟨ea, ec⟩ := e; obtain ⟨oa, oc⟩ := o; obtain ⟨z1, z2, z3, z4⟩ := z; simp only at hj hz; have hb0 : (bl.map (·.1)).length = bl.length := List.length_map ..; refine zAh Tryz.func15 rfl rfl ?_
  refine zA4 (zA2 (zBp (v := .agg _) hs rfl rfl ?_)); clear hs; intro b10 w hs
  try simp only [zzs, zzz] at hs
  refine Jf rfl (J3 rfl (zA6 (zA4 (zA4 (zA2 (J0 rfl (Jn rfl rfl (J2 rfl (zB3 (t := _) (d := 26) rfl ?_ ?_)))))))))
  ·
   intro h25; have g25 := of_decide_eq_true h25; refine Qe rfl rfl h25 (Qe rfl rfl h25 (Ja rfl h25 rfl (zA6 (zBc rfl rfl (zA4 (zAq zBk hs ?_)))))); intro w tr hK; replace hs := tr _ hs; clear tr; refine Qd 0 rfl zCq rfl (fun w hs => hE.cellW hs 105 (by decide) rfl) hK (Q5 1 rfl (v := .pointer none) rfl hK (Q1 2 rfl rfl hK (zAs (by kernel_rfl) ?_))); clear hK; refine zAe (zEd (v := .pointer none) (v2 := zAk ad _) rfl rfl rfl ?_)
   have hF : upF each m (bl.map (·.1)) = (105, none) := by rw [upF, if_pos (by omega)]
   refine ⟨_, rfl, Or.inl ?_⟩; rw [hF]; exact ⟨by decide, 0, rfl, hs.tail.addE (emp_okF _)⟩
  ·
   intro h25; have g25 := of_decide_eq_false h25; refine zAl rfl rfl h25 (J0 rfl (zAl rfl rfl h25 (Jt rfl rfl (J9 rfl h25 rfl (zA6 (zB2 rfl ?_ ?_))))))
   ·
    intro h28; have g28 := of_decide_eq_true h28; refine zA4 (zAq zBk hs ?_); intro w tr hK; replace hs := tr _ hs; clear tr; refine Qd 0 rfl zCq rfl (fun w hs => hE.cellW hs 105 (by decide) rfl) hK (Q5 1 rfl (v := .pointer none) rfl hK (Q1 2 rfl rfl hK (zAs (by kernel_rfl) ?_))); clear hK; refine zAe (zEd (v := .pointer none) (v2 := zAk ad _) rfl rfl rfl ?_)
    have hF : upF each m (bl.map (·.1)) = (105, none) := by rw [upF, if_pos (by omega)]
    refine ⟨_, rfl, Or.inl ?_⟩; rw [hF]; exact ⟨by decide, 0, rfl, hs.tail.addE (emp_okF _)⟩
   ·
    intro h28; have g28 := of_decide_eq_false h28; refine zAd (zA4 (zA4 (zA2 (Qa (zCj hs 0 (mfL m (ea, ec) (oa, oc)) rfl zCp zEt rfl rfl) (Qg en45 (validM_sl hE.uV (x := m) (e := (ea, ec)) (o := (oa, oc)) hs hm.cons.cons.cons hob) ?_))))); clear hs; rintro _ w ⟨eb, rfl, hs⟩; refine Jl (v := flV ad _ _) rfl (zA6 (zA4 (zA2 (Jm (v := flV ad _ _) rfl (Qa (run_neF (mfF_ok m).place rfl) (zA6 (zB2 rfl ?_ ?_)))))))
    ·
     intro h34; have g34 := zFj h34
     have h0 : (mfF m).1 ≠ 0 := by simpa using h34
     refine zA4 (zA2 (Jm (v := flV ad _ _) rfl (Jf rfl (Jl (v := flV ad _ _) rfl (zA6 (zAe (zEd (v := .pointer none) (v2 := flV ad _ _) rfl rfl rfl ?_)))))))
     have hF : upF each m (bl.map (·.1)) = mfF m := by rw [upF, if_neg (by omega), if_pos h0]
     refine ⟨_, rfl, Or.inl ?_⟩; rw [hF]; exact ⟨h0, eb, rfl, hs.arr [0, 2, 3] 4 (by decide)⟩
    ·
     intro h34; have g34 := zFi h34
     have h0 : (mfF m).1 = 0 := by simpa using h34
     replace hs := hs.tail; refine zAd (zA4 (zA4 (zA2 (J7 rfl (Js uz62 rfl (Jp (o' := 5) zCp rfl sz37 rfl rfl rfl (Qc zD rfl hs 0 rfl rfl (Js zD rfl (Qa (zDy rfl rfl) (zA6 (zB2 rfl ?_ ?_)))))))))))
     ·
      intro h41; have g41 := zFj h41; refine zA4 (zAq zBk hs ?_); intro w tr hK; replace hs := tr _ hs; clear tr; refine Qd 0 rfl zCq rfl (fun w hs => hE.cellW hs 103 (by decide) rfl) hK (Q5 1 rfl (v := .pointer none) rfl hK (Q1 2 rfl rfl hK (zAs (by kernel_rfl) ?_))); clear hK; refine zAe (zEd (v := .pointer none) (v2 := zAk ad _) rfl rfl rfl ?_)
      have hF : upF each m (bl.map (·.1)) = (103, none) := by rw [upF, if_neg (by omega), if_neg (by simpa using h0), if_pos (by rw [hb0]; omega)]
      refine ⟨_, rfl, Or.inl ?_⟩; rw [hF]; exact ⟨by decide, 0, rfl, hs.tail.addE (emp_okF _)⟩
     ·
      intro h41; have g41 := zFi h41; refine zAd (zA4 (zAq zBk hs ?_)); intro w tr hK; replace hs := tr _ hs; clear tr; refine Q0 0 rfl rfl hK (Q0 1 rfl rfl hK (Q0 2 rfl rfl hK (Qb 3 rfl (fun w hs => zCj hs 0 (mfL m (ea, ec) (oa, oc)) rfl zCp zEt rfl rfl) hK (Q6 5 rfl (o' := 0) zCp rfl sz3 rfl rfl rfl hK (Qd 6 rfl uz3 rfl (fun w hs => hs.cellAt 0 rfl rfl) hK ?_)))))
      refine Qb 7 rfl (fun w hs => zBw (cs := [.int .i64 m.id, .int .i64 0, .int .i64 0, .int .i64 0]) zDg ze103 pl103 rfl) hK (zAc [4] ⟨⟨_, rfl, ?_⟩, trivial⟩); refine Qg en46 (cloneM_sl hs (x := m) (e := (ea, ec)) (o := (oa, oc)) hm.cons.cons.cons (heps h0) hob) ?_; clear hs; rintro _ w ⟨s1, s2, rfl, hs⟩; clear hK; have hK := hs.tail.tail; refine zA6 ⟨hK, ?_⟩; refine @zFs _ _ _ _ _ _ _ _ _ _ _ _ _ _ 8 _ rfl (by kernel_rfl) (by kernel_rfl) (by kernel_rfl) rfl (fun w hs => run_buildUp (E := each.toNat) (m := m) (e := s1) (o := s2) zDf ze106 pl106 rfl rfl rfl rfl rfl) hK (zAc [9] ⟨⟨_, rfl, ?_⟩, trivial⟩)
      refine zBp (v := .agg _) hs rfl rfl ?_; clear hs; intro b52 w hs
      try simp only [zzs, zzz] at hs
      clear hK; have hK := hs.tail.tail.tail; refine zA6 ⟨hK, ?_⟩; refine Q5 10 rfl (v := .pointer (some _)) rfl hK (zAs (by kernel_rfl) ?_); clear hK; obtain ⟨E, rfl⟩ : ∃ E : Nat, each = E := ⟨each.toNat, by omega⟩; replace hs := (((Mem.stars (M := []) (L := _ :: _ :: _ :: _ :: _ :: _ :: L) hs).addE (rowK_nil 5 _)).addE (zDn _)).arr [3, 4, 5, 0, 1, 2, 6, 7, 8] 9 (by decide); refine zA4 (zA4 (zA2 (Jp (o' := 5) zCp rfl sz37 rfl rfl rfl (Qc zD rfl hs 6 rfl rfl (Js zD rfl (J0 rfl (zA6 (zAp ?_))))))))
      refine zBs (X := Nat × List (List UInt8 × SA) × SA × SA) [12, 13, 16, 17, 18, 19, 56, 57, 58, 59, 60, 61, 62, 63, 64, 65, 66, 67, 68, 69, 70, 71, 72, 73, 74, 75, 76, 77, 78, 79, 80, 81, 82, 83, 84, 85, 86, 87, 88, 89, 90, 91, 92, 93, 94, 95, 96, 97, 98, 99, 100, 101, 102, 103, 104, 105, 106, 107, 108, 109, 110, 111] (fun x => [(56, .int .i64 (x.1 : Nat))]) (fun x w => (x.1 ≤ m.obs.length ∧ x.2.1.map (·.1) = (bl.map (·.1)).take x.1 ∧ upG E 0 m.obs (bl.map (·.1)) = upG E x.1 (m.obs.drop x.1) ((bl.map (·.1)).drop x.1)) ∧ Mem g w (ucO b52 (upTo d l c E m s1 s2 x) (m.id, 0, 0, 0) false (cells b10 (mfL m (ea, ec) (oa, oc)) 39 :: zDs l d ev V q cc n :: zB9 d dk :: L))) (fun x => m.obs.length - x.1) ((0, [], (none, 0), (none, 0))) ?_ ?_ ?_
      · exact ⟨rfl, trivial⟩
      · exact ⟨⟨Nat.zero_le _, rfl, rfl⟩, Mem.noPlans hs⟩
      clear hs; rintro x ξ w hI; obtain ⟨k, xs, ⟨a3, c3⟩, ⟨a4, c4⟩⟩ := x; obtain ⟨⟨hk, hxs, hup⟩, hs⟩ := hI; simp only at hk hxs hup hs
      show cw _ _ _ _ _ _ (updL (mix _ ξ _) [(56, .int .i64 (k : Nat))]) w
      refine zA4 (zA2 (Jn rfl rfl (zA6 (zA4 (zB2 rfl ?_ ?_)))))
      ·
       intro h57; have g57 := of_decide_eq_true h57; obtain ⟨ob, hob2⟩ : ∃ ob, m.obs[k]? = some ob := ⟨_, List.getElem?_eq_getElem (by omega)⟩; obtain ⟨y, hy⟩ : ∃ y, bl[k]? = some y := ⟨_, List.getElem?_eq_getElem (by omega)⟩; have hym := List.mem_of_getElem? hy
       have hyv : (bl.map bV)[k]? = some (bV y) := by rw [List.getElem?_map, hy]; rfl
       have hyb : (bl.map (·.1))[k]? = some y.1 := by rw [List.getElem?_map, hy]; rfl
       rw [upG_at hob2 hyb] at hup
       have hxl : xs.length = k := by have := congrArg List.length hxs; simp only [List.length_map, List.length_take] at this; omega
       obtain ⟨bo, oo, rfl⟩ := hm.obs.at (hs.suffix 9 rfl) (by rw [zEz]; omega); obtain ⟨bb, bo2, rfl, _⟩ := hb.cells' (hs.suffix 9 rfl) (by rw [List.length_map]; omega); refine zAd (zA4 (zAp (zA4 (zA2 (J0 rfl (Qa (zAy zD sz66 rfl rfl rfl (by omega) rfl) (Qa (zDa (cs := obL ob) zG2 sz66 rfl (fun j v hj => hm.obs.cell (hs.suffix 9 rfl) (zG9 hob2) hj)) (zBj hs rfl ze66 ?_)))))))); clear hs; intro b17 w hs
       try simp only [zzs, zzz] at hs
       refine J4 rfl (zAr hs 0 rfl rfl rfl sz66 rfl rfl ?_); clear hs; intro w hs
       try simp only [zzs, zzz] at hs
       refine zA6 (zA4 (zAq zBk hs ?_)); intro w tr hK; replace hs := tr _ hs; clear tr; refine Qb 0 rfl (fun w hs => zBd hs 0 rfl zG2 sz66 rfl) hK (Q3 1 rfl rfl hK (Q2 2 rfl rfl hK (Qb 3 rfl (fun w hs => zB5 uz62 sz22 rfl rfl rfl (by omega) rfl) hK (Qd 4 rfl zC6 rfl (fun w hs => hb.cellAt (hs.suffix 10 rfl) hyv) hK (zAc [5] ⟨⟨_, rfl, ?_⟩, trivial⟩))))); refine Qg en47 (check_sl hE hs (fun w hs => hbr y hym w (hs.suffix 10 rfl)) (hbl y hym)) ?_; clear hs; rintro _ w ⟨rfl, hs⟩; clear hK; have hK := hs
       refine zA6 ⟨hK, ?_⟩; refine Q1 6 rfl rfl hK (zAs (by kernel_rfl) ?_); clear hK; refine zA4 (zA2 (zBj hs rfl ze109 ?_)); clear hs; intro b19 w hs
       try simp only [zzs, zzz] at hs
       refine zA6 (zA4 (zA4 (zA2 (J8 rfl (Qa (zDl (ad := ad) rfl) (zA6 (zB2 rfl ?_ ?_)))))))
       ·
        intro h68; have g68 := of_decide_eq_true h68
        have hck : obCk ob y.1 = 0 := by simpa using h68
        refine zAq zBk hs.tail ?_; intro w tr hK; replace hs := tr _ hs; clear tr; refine Q6 0 rfl (o' := 0) zG2 rfl sz9 rfl rfl rfl hK (Qd 1 rfl uz9 rfl (fun w hs => hs.cellAt 0 rfl rfl) hK (Q3 2 rfl rfl hK (Q2 3 rfl rfl hK (Qb 4 rfl (fun w hs => zB5 uz62 sz22 rfl rfl rfl (by omega) rfl) hK (Qd 5 rfl zC6 rfl (fun w hs => hb.cellAt (hs.suffix 10 rfl) hyv) hK (Q2 6 rfl rfl hK (zAc [7] ⟨⟨_, rfl, ?_⟩, trivial⟩)))))))
        refine Qg en48 (pmake_sl hE.uG hs (fun w hs => hbr y hym w (hs.suffix 11 rfl)) rfl (hbl y hym) hea) ?_; clear hs; rintro _ w ⟨c77, nm77, sz77, sm77, ea77, pa77, hmk, rfl, hs⟩; clear hK; have hK := hs.tail; refine zA6 ⟨hK, ?_⟩; refine Q4 8 rfl (v := .tuple _) rfl hK (Q8 9 rfl (v := .agg _) rfl rfl hK (Q8 10 rfl (v := zAk ad _) rfl rfl hK (zAc [11] ⟨⟨_, rfl, ?_⟩, trivial⟩))); refine zAr hs 0 rfl rfl rfl zGh rfl rfl ?_; clear hs; intro w hs
        try simp only [zzs, zzz] at hs
        clear hK; have hK := hs.tail; refine zA6 ⟨hK, ?_⟩; refine Q1 12 rfl rfl hK (zAs (by kernel_rfl) ?_); clear hK; refine zA4 (zA4 (zA2 (J8 rfl (Jv (ad := ad) rfl (zA6 (zB2 rfl ?_ ?_))))))
        ·
         intro h81; have g81 := zFj h81; refine zA4 (zA2 (J0 rfl (J8 rfl (Qa (zBg [.int .i64 (k : Nat), zAk ad c77] uz114 ze114 pl114 rfl (at_one _ _) rfl rfl) (zBp (v := .agg _) hs rfl rfl ?_))))); clear hs; intro b85 w hs
         try simp only [zzs, zzz] at hs
         refine Qa (run_mkI uz112 rfl) (Jf rfl (Jl (v := .iface _ (.pointer (some _))) rfl (zA6 (zAe (zEd (v := .pointer none) (v2 := .iface _ (.pointer (some _))) rfl rfl rfl ?_)))))
         have hg : obG E ob y.1 = c77 := by rw [obG, if_neg (by simp [hck]), hmk]
         have hF : upF E m (bl.map (·.1)) = (c77, some k) := by rw [upF, if_neg (by omega), if_neg (by simpa using h0), if_neg (by rw [hb0]; omega), hup, hg, if_pos g81]
         refine ⟨_, rfl, Or.inl ?_⟩; rw [hF]; exact ⟨g81, b85, rfl, hs.arr [0, 10, 11] 12 (by decide)⟩
        ·
         intro h81; have g81 := zFi h81
         have hc0 : c77 = 0 := by simpa using h81
         subst hc0; obtain ⟨rfl, rfl, rfl, rfl, rfl⟩ := mkR_ok hmk; refine zAd ?_
         have hpl : (zCo E m.obs xs).length = k := by rw [zCo, List.length_map, List.length_zip]; omega
         replace hs := hs.arr [2, 5, 6, 0, 1, 3, 4, 7, 8, 9, 10] 11 (by decide); refine zAq zBk ((show Mem g w (newH (cells b19 (zEx E ob y.1) 109) (cells b17 (obL ob) 66) (cells b10 (mfL m (ea, ec) (some ⟨bo, oo, none⟩, oc)) 39) (upTo d l c E m s1 s2 (k, xs, (a3, c3), (a4, c4))) (zDs l d ev V q cc n :: zB9 d dk :: L)) from by first | exact hs.suffix 3 rfl | exact hs.suffix 4 rfl | exact hs.suffix 5 rfl | exact hs.suffix 6 rfl)) ?_; intro w tr hK; replace hs := tr _ hs; clear tr; refine Q0 0 rfl rfl hK (Q0 1 rfl rfl hK ?_)
         refine Q0 2 rfl rfl hK (Q7 3 rfl rfl hK (Q6 4 rfl (o' := 10) zDf rfl sz104 rfl rfl rfl hK (Qb 6 rfl (fun w hs => zBd hs 0 rfl zEm zGh rfl) hK (Q0 9 rfl rfl hK (Q7 10 rfl rfl hK (Q6 11 rfl (o' := 9) zDf rfl sz62 rfl rfl rfl hK (Q3 13 rfl rfl hK (Q2 14 rfl rfl hK ?_))))))))
         refine Qb 15 rfl (fun w hs => zB5 uz62 sz22 rfl rfl rfl (by omega) rfl) hK (Qd 16 rfl zC6 rfl (fun w hs => hb.cellAt (hs.suffix 8 rfl) hyv) hK (zAc [5, 7, 12] ⟨⟨_, rfl, ?_⟩, ⟨_, rfl, ?_⟩, ⟨_, rfl, ?_⟩, trivial⟩)); refine Qc zDt rfl hs 0 rfl rfl ?_; clear hK; have hK := (show Mem g w (newH (cells b19 (zEx E ob y.1) 109) (cells b17 (obL ob) 66) (cells b10 (mfL m (ea, ec) (some ⟨bo, oo, none⟩, oc)) 39) (upTo d l c E m s1 s2 (k, xs, (a3, c3), (a4, c4))) (zDs l d ev V q cc n :: zB9 d dk :: L)) from by first | exact hs.suffix 3 rfl | exact hs.suffix 4 rfl | exact hs.suffix 5 rfl | exact hs.suffix 6 rfl)
         refine zA6 ⟨hK, ?_⟩; refine zAc [7, 12] ⟨⟨_, rfl, ?_⟩, ⟨_, rfl, ?_⟩, trivial⟩; refine zBf hs rfl (row := zEx E ob y.1) zDt zsPl rfl (fill_plan _ _ _ _ _) (by decide) (by decide) ?_; clear hs; intro b94 w hs; clear hK; have hK := hs.suffix 4 rfl; refine zA6 ⟨hK, ?_⟩; refine zAc [8, 12] ⟨⟨_, rfl, ?_⟩, ⟨_, rfl, ?_⟩, trivial⟩; refine zCn hs rfl 3 0 rfl rfl zDt zDt in109 rfl rfl (by rfl) rfl rfl (by show ((zCo E m.obs xs).length + 1) * _ ≤ 140737488355328; rw [hpl]; omega) (by show (zCo E m.obs xs).length + 1 ≤ _; rw [hpl]; omega) ?_; clear hs; intro a95 c95 w hs; simp only [zzs, zzz] at hs; clear hK; have hK := hs.suffix 4 rfl
         refine zA6 ⟨hK, ?_⟩; refine zAc [12, 17] ⟨⟨_, rfl, ?_⟩, ⟨_, rfl, ?_⟩, trivial⟩; refine Qc uz62 rfl hs 1 rfl rfl ?_; clear hK; have hK := (show Mem g w (newH (cells b19 (zEx E ob y.1) 109) (cells b17 (obL ob) 66) (cells b10 (mfL m (ea, ec) (some ⟨bo, oo, none⟩, oc)) 39) (upTo d l c E m s1 s2 (k, xs, (a3, c3), (a4, c4))) (zDs l d ev V q cc n :: zB9 d dk :: L)) from by first | exact hs.suffix 3 rfl | exact hs.suffix 4 rfl | exact hs.suffix 5 rfl | exact hs.suffix 6 rfl); refine zA6 ⟨hK, ?_⟩; refine zAc [17] ⟨⟨_, rfl, ?_⟩, trivial⟩
         refine Qg en49 (zCt hs (l := y.1) (fun w hs => hbr y hym w (hs.suffix 12 rfl)) (by have := hbl y hym; omega)) ?_; clear hs; rintro _ w ⟨a104, c104, rfl, hs⟩; rw [zAw] at hs ⊢
         have hone : ∀ u ∈ [bV (y.1, (a104, c104))], u.oneCell' = true := fun u hu => by simp only [List.mem_cons, List.not_mem_nil, or_false] at hu; subst hu; rfl
         clear hK; have hK := hs.suffix 5 rfl; refine zA6 ⟨hK, ?_⟩; refine zAc [18] ⟨⟨_, rfl, ?_⟩, trivial⟩; refine zB4 hs rfl ([bV (y.1, (a104, c104))]) uz62 zs22 rfl (fun u hu => (by simp only [List.mem_cons, List.not_mem_nil, or_false] at hu; subst hu; rfl)) rfl rfl rfl ?_; clear hs; intro b105 w hs
         try simp only [zzs, zzz] at hs
         clear hK; have hK := hs.suffix 6 rfl
         rotate_left
         refine Qg en49 (zCt hs (l := y.1) (fun w hs => hbr y hym w (hs.suffix 12 rfl)) (by have := hbl y hym; omega)) ?_; clear hs; rintro _ w ⟨a104, c104, rfl, hs⟩; rw [zAw] at hs ⊢
         have hone : ∀ u ∈ [bV (y.1, (a104, c104))], u.oneCell' = true := fun u hu => by simp only [List.mem_cons, List.not_mem_nil, or_false] at hu; subst hu; rfl
         clear hK; have hK := hs.suffix 5 rfl; refine zA6 ⟨hK, ?_⟩; refine zAc [12, 18] ⟨⟨_, rfl, ?_⟩, ⟨_, rfl, ?_⟩, trivial⟩; refine Qc uz62 rfl hs 2 rfl rfl ?_; clear hK; have hK := (show Mem g w (newH (cells b19 (zEx E ob y.1) 109) (cells b17 (obL ob) 66) (cells b10 (mfL m (ea, ec) (some ⟨bo, oo, none⟩, oc)) 39) (upTo d l c E m s1 s2 (k, xs, (a3, c3), (a4, c4))) (zDs l d ev V q cc n :: zB9 d dk :: L)) from by first | exact hs.suffix 3 rfl | exact hs.suffix 4 rfl | exact hs.suffix 5 rfl | exact hs.suffix 6 rfl); refine zA6 ⟨hK, ?_⟩; refine zAc [18] ⟨⟨_, rfl, ?_⟩, trivial⟩
         refine zB4 hs rfl ([bV (y.1, (a104, c104))]) uz62 zs22 rfl (fun u hu => (by simp only [List.mem_cons, List.not_mem_nil, or_false] at hu; subst hu; rfl)) rfl rfl rfl ?_; clear hs; intro b105 w hs
         try simp only [zzs, zzz] at hs
         clear hK; have hK := hs.suffix 6 rfl
         rotate_left
         refine zB4 hs rfl ([bV (y.1, (a104, c104))]) uz62 zs22 rfl (fun u hu => (by simp only [List.mem_cons, List.not_mem_nil, or_false] at hu; subst hu; rfl)) rfl rfl rfl ?_; clear hs; intro b105 w hs
         try simp only [zzs, zzz] at hs
         clear hK; have hK := hs.suffix 6 rfl; refine zA6 ⟨hK, ?_⟩; refine zAc [12] ⟨⟨_, rfl, ?_⟩, trivial⟩; refine Qc uz62 rfl hs 3 rfl rfl ?_; clear hK; have hK := (show Mem g w (newH (cells b19 (zEx E ob y.1) 109) (cells b17 (obL ob) 66) (cells b10 (mfL m (ea, ec) (some ⟨bo, oo, none⟩, oc)) 39) (upTo d l c E m s1 s2 (k, xs, (a3, c3), (a4, c4))) (zDs l d ev V q cc n :: zB9 d dk :: L)) from by first | exact hs.suffix 3 rfl | exact hs.suffix 4 rfl | exact hs.suffix 5 rfl | exact hs.suffix 6 rfl)
         rotate_left
         refine Qc uz62 rfl hs 1 rfl rfl ?_; clear hK; have hK := (show Mem g w (newH (cells b19 (zEx E ob y.1) 109) (cells b17 (obL ob) 66) (cells b10 (mfL m (ea, ec) (some ⟨bo, oo, none⟩, oc)) 39) (upTo d l c E m s1 s2 (k, xs, (a3, c3), (a4, c4))) (zDs l d ev V q cc n :: zB9 d dk :: L)) from by first | exact hs.suffix 3 rfl | exact hs.suffix 4 rfl | exact hs.suffix 5 rfl | exact hs.suffix 6 rfl); refine zA6 ⟨hK, ?_⟩; refine zAc [8] ⟨⟨_, rfl, ?_⟩, trivial⟩
         refine zCn hs rfl 3 0 rfl rfl zDt zDt in109 rfl rfl (by rfl) rfl rfl (by show ((zCo E m.obs xs).length + 1) * _ ≤ 140737488355328; rw [hpl]; omega) (by show (zCo E m.obs xs).length + 1 ≤ _; rw [hpl]; omega) ?_; clear hs; intro a95 c95 w hs; simp only [zzs, zzz] at hs; clear hK; have hK := hs.suffix 4 rfl; refine zA6 ⟨hK, ?_⟩; refine zAc [17] ⟨⟨_, rfl, ?_⟩, trivial⟩; refine Qg en49 (zCt hs (l := y.1) (fun w hs => hbr y hym w (hs.suffix 12 rfl)) (by have := hbl y hym; omega)) ?_; clear hs; rintro _ w ⟨a104, c104, rfl, hs⟩; rw [zAw] at hs ⊢
         have hone : ∀ u ∈ [bV (y.1, (a104, c104))], u.oneCell' = true := fun u hu => by simp only [List.mem_cons, List.not_mem_nil, or_false] at hu; subst hu; rfl
         clear hK; have hK := hs.suffix 5 rfl; refine zA6 ⟨hK, ?_⟩; refine zAc [18] ⟨⟨_, rfl, ?_⟩, trivial⟩; refine zB4 hs rfl ([bV (y.1, (a104, c104))]) uz62 zs22 rfl (fun u hu => (by simp only [List.mem_cons, List.not_mem_nil, or_false] at hu; subst hu; rfl)) rfl rfl rfl ?_; clear hs; intro b105 w hs
         try simp only [zzs, zzz] at hs
         clear hK; have hK := hs.suffix 6 rfl
         rotate_left
         refine Qc uz62 rfl hs 0 rfl rfl ?_; clear hK; have hK := (show Mem g w (newH (cells b19 (zEx E ob y.1) 109) (cells b17 (obL ob) 66) (cells b10 (mfL m (ea, ec) (some ⟨bo, oo, none⟩, oc)) 39) (upTo d l c E m s1 s2 (k, xs, (a3, c3), (a4, c4))) (zDs l d ev V q cc n :: zB9 d dk :: L)) from by first | exact hs.suffix 3 rfl | exact hs.suffix 4 rfl | exact hs.suffix 5 rfl | exact hs.suffix 6 rfl); refine zA6 ⟨hK, ?_⟩; refine zAc [7] ⟨⟨_, rfl, ?_⟩, trivial⟩; refine zBf hs rfl (row := zEx E ob y.1) zDt zsPl rfl (fill_plan _ _ _ _ _) (by decide) (by decide) ?_; clear hs; intro b94 w hs; clear hK; have hK := hs.suffix 4 rfl; refine zA6 ⟨hK, ?_⟩
         refine zAc [8] ⟨⟨_, rfl, ?_⟩, trivial⟩; refine zCn hs rfl 3 0 rfl rfl zDt zDt in109 rfl rfl (by rfl) rfl rfl (by show ((zCo E m.obs xs).length + 1) * _ ≤ 140737488355328; rw [hpl]; omega) (by show (zCo E m.obs xs).length + 1 ≤ _; rw [hpl]; omega) ?_; clear hs; intro a95 c95 w hs; simp only [zzs, zzz] at hs; clear hK; have hK := hs.suffix 4 rfl; refine zA6 ⟨hK, ?_⟩; refine zAc [17] ⟨⟨_, rfl, ?_⟩, trivial⟩; refine Qg en49 (zCt hs (l := y.1) (fun w hs => hbr y hym w (hs.suffix 12 rfl)) (by have := hbl y hym; omega)) ?_; clear hs; rintro _ w ⟨a104, c104, rfl, hs⟩; rw [zAw] at hs ⊢
         have hone : ∀ u ∈ [bV (y.1, (a104, c104))], u.oneCell' = true := fun u hu => by simp only [List.mem_cons, List.not_mem_nil, or_false] at hu; subst hu; rfl
         clear hK; have hK := hs.suffix 5 rfl; refine zA6 ⟨hK, ?_⟩; refine zAc [18] ⟨⟨_, rfl, ?_⟩, trivial⟩; refine zB4 hs rfl ([bV (y.1, (a104, c104))]) uz62 zs22 rfl (fun u hu => (by simp only [List.mem_cons, List.not_mem_nil, or_false] at hu; subst hu; rfl)) rfl rfl rfl ?_; clear hs; intro b105 w hs
         try simp only [zzs, zzz] at hs
         clear hK; have hK := hs.suffix 6 rfl
         rotate_left
         refine zBf hs rfl (row := zEx E ob y.1) zDt zsPl rfl (fill_plan _ _ _ _ _) (by decide) (by decide) ?_; clear hs; intro b94 w hs; clear hK; have hK := hs.suffix 4 rfl; refine zA6 ⟨hK, ?_⟩; refine zAc [5, 12] ⟨⟨_, rfl, ?_⟩, ⟨_, rfl, ?_⟩, trivial⟩; refine Qc zDt rfl hs 1 rfl rfl ?_; clear hK; have hK := (show Mem g w (newH (cells b19 (zEx E ob y.1) 109) (cells b17 (obL ob) 66) (cells b10 (mfL m (ea, ec) (some ⟨bo, oo, none⟩, oc)) 39) (upTo d l c E m s1 s2 (k, xs, (a3, c3), (a4, c4))) (zDs l d ev V q cc n :: zB9 d dk :: L)) from by first | exact hs.suffix 3 rfl | exact hs.suffix 4 rfl | exact hs.suffix 5 rfl | exact hs.suffix 6 rfl)
         refine zA6 ⟨hK, ?_⟩; refine zAc [8, 12] ⟨⟨_, rfl, ?_⟩, ⟨_, rfl, ?_⟩, trivial⟩; refine zCn hs rfl 3 0 rfl rfl zDt zDt in109 rfl rfl (by rfl) rfl rfl (by show ((zCo E m.obs xs).length + 1) * _ ≤ 140737488355328; rw [hpl]; omega) (by show (zCo E m.obs xs).length + 1 ≤ _; rw [hpl]; omega) ?_; clear hs; intro a95 c95 w hs; simp only [zzs, zzz] at hs; clear hK; have hK := hs.suffix 4 rfl; refine zA6 ⟨hK, ?_⟩; refine zAc [12, 17] ⟨⟨_, rfl, ?_⟩, ⟨_, rfl, ?_⟩, trivial⟩; refine Qc uz62 rfl hs 1 rfl rfl ?_; clear hK
         have hK := (show Mem g w (newH (cells b19 (zEx E ob y.1) 109) (cells b17 (obL ob) 66) (cells b10 (mfL m (ea, ec) (some ⟨bo, oo, none⟩, oc)) 39) (upTo d l c E m s1 s2 (k, xs, (a3, c3), (a4, c4))) (zDs l d ev V q cc n :: zB9 d dk :: L)) from by first | exact hs.suffix 3 rfl | exact hs.suffix 4 rfl | exact hs.suffix 5 rfl | exact hs.suffix 6 rfl); refine zA6 ⟨hK, ?_⟩; refine zAc [17] ⟨⟨_, rfl, ?_⟩, trivial⟩; refine Qg en49 (zCt hs (l := y.1) (fun w hs => hbr y hym w (hs.suffix 12 rfl)) (by have := hbl y hym; omega)) ?_; clear hs; rintro _ w ⟨a104, c104, rfl, hs⟩; rw [zAw] at hs ⊢
         have hone : ∀ u ∈ [bV (y.1, (a104, c104))], u.oneCell' = true := fun u hu => by simp only [List.mem_cons, List.not_mem_nil, or_false] at hu; subst hu; rfl
         clear hK; have hK := hs.suffix 5 rfl; refine zA6 ⟨hK, ?_⟩; refine zAc [18] ⟨⟨_, rfl, ?_⟩, trivial⟩; refine zB4 hs rfl ([bV (y.1, (a104, c104))]) uz62 zs22 rfl (fun u hu => (by simp only [List.mem_cons, List.not_mem_nil, or_false] at hu; subst hu; rfl)) rfl rfl rfl ?_; clear hs; intro b105 w hs
         try simp only [zzs, zzz] at hs
         clear hK; have hK := hs.suffix 6 rfl
         rotate_left
         refine Qg en49 (zCt hs (l := y.1) (fun w hs => hbr y hym w (hs.suffix 12 rfl)) (by have := hbl y hym; omega)) ?_; clear hs; rintro _ w ⟨a104, c104, rfl, hs⟩; rw [zAw] at hs ⊢
         have hone : ∀ u ∈ [bV (y.1, (a104, c104))], u.oneCell' = true := fun u hu => by simp only [List.mem_cons, List.not_mem_nil, or_false] at hu; subst hu; rfl
         clear hK; have hK := hs.suffix 5 rfl; refine zA6 ⟨hK, ?_⟩; refine zAc [12, 18] ⟨⟨_, rfl, ?_⟩, ⟨_, rfl, ?_⟩, trivial⟩; refine Qc uz62 rfl hs 2 rfl rfl ?_; clear hK; have hK := (show Mem g w (newH (cells b19 (zEx E ob y.1) 109) (cells b17 (obL ob) 66) (cells b10 (mfL m (ea, ec) (some ⟨bo, oo, none⟩, oc)) 39) (upTo d l c E m s1 s2 (k, xs, (a3, c3), (a4, c4))) (zDs l d ev V q cc n :: zB9 d dk :: L)) from by first | exact hs.suffix 3 rfl | exact hs.suffix 4 rfl | exact hs.suffix 5 rfl | exact hs.suffix 6 rfl); refine zA6 ⟨hK, ?_⟩; refine zAc [18] ⟨⟨_, rfl, ?_⟩, trivial⟩
         refine zB4 hs rfl ([bV (y.1, (a104, c104))]) uz62 zs22 rfl (fun u hu => (by simp only [List.mem_cons, List.not_mem_nil, or_false] at hu; subst hu; rfl)) rfl rfl rfl ?_; clear hs; intro b105 w hs
         try simp only [zzs, zzz] at hs
         clear hK; have hK := hs.suffix 6 rfl
         rotate_left
         refine zB4 hs rfl ([bV (y.1, (a104, c104))]) uz62 zs22 rfl (fun u hu => (by simp only [List.mem_cons, List.not_mem_nil, or_false] at hu; subst hu; rfl)) rfl rfl rfl ?_; clear hs; intro b105 w hs
         try simp only [zzs, zzz] at hs
         clear hK; have hK := hs.suffix 6 rfl; refine zA6 ⟨hK, ?_⟩; refine zAc [12] ⟨⟨_, rfl, ?_⟩, trivial⟩; refine Qc uz62 rfl hs 3 rfl rfl ?_; clear hK; have hK := (show Mem g w (newH (cells b19 (zEx E ob y.1) 109) (cells b17 (obL ob) 66) (cells b10 (mfL m (ea, ec) (some ⟨bo, oo, none⟩, oc)) 39) (upTo d l c E m s1 s2 (k, xs, (a3, c3), (a4, c4))) (zDs l d ev V q cc n :: zB9 d dk :: L)) from by first | exact hs.suffix 3 rfl | exact hs.suffix 4 rfl | exact hs.suffix 5 rfl | exact hs.suffix 6 rfl)
         rotate_left
         refine Qc uz62 rfl hs 1 rfl rfl ?_; clear hK; have hK := (show Mem g w (newH (cells b19 (zEx E ob y.1) 109) (cells b17 (obL ob) 66) (cells b10 (mfL m (ea, ec) (some ⟨bo, oo, none⟩, oc)) 39) (upTo d l c E m s1 s2 (k, xs, (a3, c3), (a4, c4))) (zDs l d ev V q cc n :: zB9 d dk :: L)) from by first | exact hs.suffix 3 rfl | exact hs.suffix 4 rfl | exact hs.suffix 5 rfl | exact hs.suffix 6 rfl); refine zA6 ⟨hK, ?_⟩; refine zAc [8] ⟨⟨_, rfl, ?_⟩, trivial⟩
         refine zCn hs rfl 3 0 rfl rfl zDt zDt in109 rfl rfl (by rfl) rfl rfl (by show ((zCo E m.obs xs).length + 1) * _ ≤ 140737488355328; rw [hpl]; omega) (by show (zCo E m.obs xs).length + 1 ≤ _; rw [hpl]; omega) ?_; clear hs; intro a95 c95 w hs; simp only [zzs, zzz] at hs; clear hK; have hK := hs.suffix 4 rfl; refine zA6 ⟨hK, ?_⟩; refine zAc [17] ⟨⟨_, rfl, ?_⟩, trivial⟩; refine Qg en49 (zCt hs (l := y.1) (fun w hs => hbr y hym w (hs.suffix 12 rfl)) (by have := hbl y hym; omega)) ?_; clear hs; rintro _ w ⟨a104, c104, rfl, hs⟩; rw [zAw] at hs ⊢
         have hone : ∀ u ∈ [bV (y.1, (a104, c104))], u.oneCell' = true := fun u hu => by simp only [List.mem_cons, List.not_mem_nil, or_false] at hu; subst hu; rfl
         clear hK; have hK := hs.suffix 5 rfl; refine zA6 ⟨hK, ?_⟩; refine zAc [18] ⟨⟨_, rfl, ?_⟩, trivial⟩; refine zB4 hs rfl ([bV (y.1, (a104, c104))]) uz62 zs22 rfl (fun u hu => (by simp only [List.mem_cons, List.not_mem_nil, or_false] at hu; subst hu; rfl)) rfl rfl rfl ?_; clear hs; intro b105 w hs
         try simp only [zzs, zzz] at hs
         clear hK; have hK := hs.suffix 6 rfl
         rotate_left
         refine Qc uz62 rfl hs 1 rfl rfl ?_; clear hK; have hK := (show Mem g w (newH (cells b19 (zEx E ob y.1) 109) (cells b17 (obL ob) 66) (cells b10 (mfL m (ea, ec) (some ⟨bo, oo, none⟩, oc)) 39) (upTo d l c E m s1 s2 (k, xs, (a3, c3), (a4, c4))) (zDs l d ev V q cc n :: zB9 d dk :: L)) from by first | exact hs.suffix 3 rfl | exact hs.suffix 4 rfl | exact hs.suffix 5 rfl | exact hs.suffix 6 rfl); refine zA6 ⟨hK, ?_⟩; refine zAc [5] ⟨⟨_, rfl, ?_⟩, trivial⟩; refine Qc zDt rfl hs 1 rfl rfl ?_; clear hK
         have hK := (show Mem g w (newH (cells b19 (zEx E ob y.1) 109) (cells b17 (obL ob) 66) (cells b10 (mfL m (ea, ec) (some ⟨bo, oo, none⟩, oc)) 39) (upTo d l c E m s1 s2 (k, xs, (a3, c3), (a4, c4))) (zDs l d ev V q cc n :: zB9 d dk :: L)) from by first | exact hs.suffix 3 rfl | exact hs.suffix 4 rfl | exact hs.suffix 5 rfl | exact hs.suffix 6 rfl); refine zA6 ⟨hK, ?_⟩; refine zAc [8] ⟨⟨_, rfl, ?_⟩, trivial⟩; refine zCn hs rfl 3 0 rfl rfl zDt zDt in109 rfl rfl (by rfl) rfl rfl (by show ((zCo E m.obs xs).length + 1) * _ ≤ 140737488355328; rw [hpl]; omega) (by show (zCo E m.obs xs).length + 1 ≤ _; rw [hpl]; omega) ?_; clear hs; intro a95 c95 w hs
         simp only [zzs, zzz] at hs; clear hK; have hK := hs.suffix 4 rfl; refine zA6 ⟨hK, ?_⟩; refine zAc [17] ⟨⟨_, rfl, ?_⟩, trivial⟩; refine Qg en49 (zCt hs (l := y.1) (fun w hs => hbr y hym w (hs.suffix 12 rfl)) (by have := hbl y hym; omega)) ?_; clear hs; rintro _ w ⟨a104, c104, rfl, hs⟩; rw [zAw] at hs ⊢
         have hone : ∀ u ∈ [bV (y.1, (a104, c104))], u.oneCell' = true := fun u hu => by simp only [List.mem_cons, List.not_mem_nil, or_false] at hu; subst hu; rfl
         clear hK; have hK := hs.suffix 5 rfl; refine zA6 ⟨hK, ?_⟩; refine zAc [18] ⟨⟨_, rfl, ?_⟩, trivial⟩; refine zB4 hs rfl ([bV (y.1, (a104, c104))]) uz62 zs22 rfl (fun u hu => (by simp only [List.mem_cons, List.not_mem_nil, or_false] at hu; subst hu; rfl)) rfl rfl rfl ?_; clear hs; intro b105 w hs
         try simp only [zzs, zzz] at hs
         clear hK; have hK := hs.suffix 6 rfl
         rotate_left
         refine Qc uz62 rfl hs 0 rfl rfl ?_; clear hK; have hK := (show Mem g w (newH (cells b19 (zEx E ob y.1) 109) (cells b17 (obL ob) 66) (cells b10 (mfL m (ea, ec) (some ⟨bo, oo, none⟩, oc)) 39) (upTo d l c E m s1 s2 (k, xs, (a3, c3), (a4, c4))) (zDs l d ev V q cc n :: zB9 d dk :: L)) from by first | exact hs.suffix 3 rfl | exact hs.suffix 4 rfl | exact hs.suffix 5 rfl | exact hs.suffix 6 rfl); refine zA6 ⟨hK, ?_⟩; refine zAc [5, 7] ⟨⟨_, rfl, ?_⟩, ⟨_, rfl, ?_⟩, trivial⟩; refine Qc zDt rfl hs 0 rfl rfl ?_; clear hK
         have hK := (show Mem g w (newH (cells b19 (zEx E ob y.1) 109) (cells b17 (obL ob) 66) (cells b10 (mfL m (ea, ec) (some ⟨bo, oo, none⟩, oc)) 39) (upTo d l c E m s1 s2 (k, xs, (a3, c3), (a4, c4))) (zDs l d ev V q cc n :: zB9 d dk :: L)) from by first | exact hs.suffix 3 rfl | exact hs.suffix 4 rfl | exact hs.suffix 5 rfl | exact hs.suffix 6 rfl); refine zA6 ⟨hK, ?_⟩; refine zAc [7] ⟨⟨_, rfl, ?_⟩, trivial⟩; refine zBf hs rfl (row := zEx E ob y.1) zDt zsPl rfl (fill_plan _ _ _ _ _) (by decide) (by decide) ?_; clear hs; intro b94 w hs; clear hK; have hK := hs.suffix 4 rfl; refine zA6 ⟨hK, ?_⟩; refine zAc [8] ⟨⟨_, rfl, ?_⟩, trivial⟩
         refine zCn hs rfl 3 0 rfl rfl zDt zDt in109 rfl rfl (by rfl) rfl rfl (by show ((zCo E m.obs xs).length + 1) * _ ≤ 140737488355328; rw [hpl]; omega) (by show (zCo E m.obs xs).length + 1 ≤ _; rw [hpl]; omega) ?_; clear hs; intro a95 c95 w hs; simp only [zzs, zzz] at hs; clear hK; have hK := hs.suffix 4 rfl; refine zA6 ⟨hK, ?_⟩; refine zAc [17] ⟨⟨_, rfl, ?_⟩, trivial⟩; refine Qg en49 (zCt hs (l := y.1) (fun w hs => hbr y hym w (hs.suffix 12 rfl)) (by have := hbl y hym; omega)) ?_; clear hs; rintro _ w ⟨a104, c104, rfl, hs⟩; rw [zAw] at hs ⊢
         have hone : ∀ u ∈ [bV (y.1, (a104, c104))], u.oneCell' = true := fun u hu => by simp only [List.mem_cons, List.not_mem_nil, or_false] at hu; subst hu; rfl
         clear hK; have hK := hs.suffix 5 rfl; refine zA6 ⟨hK, ?_⟩; refine zAc [18] ⟨⟨_, rfl, ?_⟩, trivial⟩; refine zB4 hs rfl ([bV (y.1, (a104, c104))]) uz62 zs22 rfl (fun u hu => (by simp only [List.mem_cons, List.not_mem_nil, or_false] at hu; subst hu; rfl)) rfl rfl rfl ?_; clear hs; intro b105 w hs
         try simp only [zzs, zzz] at hs
         clear hK; have hK := hs.suffix 6 rfl
         rotate_left
         refine zBf hs rfl (row := zEx E ob y.1) zDt zsPl rfl (fill_plan _ _ _ _ _) (by decide) (by decide) ?_; clear hs; intro b94 w hs; clear hK; have hK := hs.suffix 4 rfl; refine zA6 ⟨hK, ?_⟩; refine zAc [5] ⟨⟨_, rfl, ?_⟩, trivial⟩; refine Qc zDt rfl hs 1 rfl rfl ?_; clear hK; have hK := (show Mem g w (newH (cells b19 (zEx E ob y.1) 109) (cells b17 (obL ob) 66) (cells b10 (mfL m (ea, ec) (some ⟨bo, oo, none⟩, oc)) 39) (upTo d l c E m s1 s2 (k, xs, (a3, c3), (a4, c4))) (zDs l d ev V q cc n :: zB9 d dk :: L)) from by first | exact hs.suffix 3 rfl | exact hs.suffix 4 rfl | exact hs.suffix 5 rfl | exact hs.suffix 6 rfl); refine zA6 ⟨hK, ?_⟩
         refine zAc [8] ⟨⟨_, rfl, ?_⟩, trivial⟩; refine zCn hs rfl 3 0 rfl rfl zDt zDt in109 rfl rfl (by rfl) rfl rfl (by show ((zCo E m.obs xs).length + 1) * _ ≤ 140737488355328; rw [hpl]; omega) (by show (zCo E m.obs xs).length + 1 ≤ _; rw [hpl]; omega) ?_; clear hs; intro a95 c95 w hs; simp only [zzs, zzz] at hs; clear hK; have hK := hs.suffix 4 rfl; refine zA6 ⟨hK, ?_⟩; refine zAc [17] ⟨⟨_, rfl, ?_⟩, trivial⟩; refine Qg en49 (zCt hs (l := y.1) (fun w hs => hbr y hym w (hs.suffix 12 rfl)) (by have := hbl y hym; omega)) ?_; clear hs; rintro _ w ⟨a104, c104, rfl, hs⟩; rw [zAw] at hs ⊢
         have hone : ∀ u ∈ [bV (y.1, (a104, c104))], u.oneCell' = true := fun u hu => by simp only [List.mem_cons, List.not_mem_nil, or_false] at hu; subst hu; rfl
         clear hK; have hK := hs.suffix 5 rfl; refine zA6 ⟨hK, ?_⟩; refine zAc [18] ⟨⟨_, rfl, ?_⟩, trivial⟩; refine zB4 hs rfl ([bV (y.1, (a104, c104))]) uz62 zs22 rfl (fun u hu => (by simp only [List.mem_cons, List.not_mem_nil, or_false] at hu; subst hu; rfl)) rfl rfl rfl ?_; clear hs; intro b105 w hs
         try simp only [zzs, zzz] at hs
         clear hK; have hK := hs.suffix 6 rfl
         rotate_left
         all_goals
          refine zA6 ⟨hK, ?_⟩; refine zAc [19] ⟨⟨_, rfl, ?_⟩, trivial⟩; refine zD3 hs rfl 4 rfl uz62 in22 rfl rfl rfl (zCr (P := Tryz.prog) uz62 ((Rd.cells (n := 1) (cs := [bV (y.1, (a104, c104))]) 0 rfl rfl).seq hs) hone) (by show ((xs.map bV).length + 1) * _ ≤ 140737488355328; rw [List.length_map, hxl]; omega) (by show (xs.map bV).length + 1 ≤ _; rw [List.length_map, hxl]; omega) ?_; clear hs; intro a106 c106 w hs; simp only [zzs, zzz] at hs; clear hK; have hK := hs.suffix 6 rfl; refine zA6 ⟨hK, ?_⟩; refine Q7 20 rfl rfl hK (Q6 21 rfl (o' := 10) zDf rfl sz104 rfl rfl rfl hK ?_)
          refine zAc [22] ⟨⟨_, rfl, ?_⟩, trivial⟩; refine zB0 (v := .slice _ _ _) hs 3 rfl sz104 rfl rfl rfl rfl ?_; clear hs; intro w hs
          try simp only [zzs, zzz] at hs
          clear hK; have hK := hs.suffix 6 rfl; refine zA6 ⟨hK, ?_⟩; refine Q7 23 rfl rfl hK (Q6 24 rfl (o' := 9) zDf rfl sz62 rfl rfl rfl hK (zAc [25] ⟨⟨_, rfl, ?_⟩, trivial⟩)); refine zB0 (v := .slice _ _ _) hs 3 rfl sz62 rfl rfl rfl rfl ?_; clear hs; intro w hs
          try simp only [zzs, zzz] at hs
          clear hK; have hK := hs.suffix 6 rfl; refine zA6 ⟨hK, ?_⟩; refine zAs (by kernel_rfl) ?_; clear hK; refine zA2 (Jo rfl rfl rfl (inI (by omega) (by omega)) (J0 rfl (zA6 ?_)))
          have hg : ¬ obG E ob y.1 ≠ 0 := by rw [obG, if_neg (by simp [hck]), hmk]; exact fun h => h rfl
          rw [if_neg hg] at hup; have h1 := (hs.arr [10, 1, 3, 8, 9, 4, 5, 11, 12, 13] 14 (by decide)).unstars; have h2 := Mem.stars (M := (xs ++ [(y.1, (a104, c104))]).map bC) (by rw [List.map_append, List.append_assoc]; exact h1)
          exact ⟨(k + 1, xs ++ [(y.1, (a104, c104))], (a106, c106), (a95, c95)), by simp only; omega, ⟨⟨by simp only; omega, by simp only [List.map_append, List.map_cons, List.map_nil, hxs]; rw [List.take_add_one, hyb]; rfl, hup⟩, Mem.moreUp (b3 := (a106, c106)) (b4 := (a95, c95)) (n3 := (xs.map bV).length + 1) (n4 := (zCo E m.obs xs).length + 1) (by simp) (by simp; omega) (plans_more (by rw [hxl]; exact hob2)) (R3 := xs.map bV ++ [bV (y.1, (a104, c104))]) (by rw [List.map_append]; rfl) h2⟩, ⟨rfl, trivial⟩, by repeat (first | exact Out.mix _ _ _ | refine Out.updo rfl ?_ | refine Out.upd rfl ?_ | refine Out.mixIn rfl ?_)⟩
       ·
        intro h68; have g68 := of_decide_eq_false h68
        have hck : obCk ob y.1 ≠ 0 := by simpa using h68
        refine zAd (zA4 (zA4 (zA2 (J8 rfl (Jv (ad := ad) rfl (zA6 (zBc rfl ((by simpa using hck)) (zA4 (zA2 (J0 rfl (J8 rfl (Qa (zBg [.int .i64 (k : Nat), zAk ad (obCk ob y.1)] uz114 ze114 pl114 rfl (at_one _ _) rfl rfl) ?_)))))))))))); refine zBp (v := .agg _) hs rfl rfl ?_; clear hs; intro b85 w hs
        try simp only [zzs, zzz] at hs
        refine Qa (run_mkI uz112 rfl) (Jf rfl (Jl (v := .iface _ (.pointer (some _))) rfl (zA6 (zAe (zEd (v := .pointer none) (v2 := .iface _ (.pointer (some _))) rfl rfl rfl ?_)))))
        have hg : obG E ob y.1 = obCk ob y.1 := by rw [obG, if_pos hck]
        have hF : upF E m (bl.map (·.1)) = (obCk ob y.1, some k) := by rw [upF, if_neg (by omega), if_neg (by simpa using h0), if_neg (by rw [hb0]; omega), hup, hg, if_pos hck]
        refine ⟨_, rfl, Or.inl ?_⟩; rw [hF]; exact ⟨hck, b85, rfl, hs.arr [0, 10, 11] 12 (by decide)⟩
      ·
       intro h57; have g57 := of_decide_eq_false h57
       have hke : k = m.obs.length := by omega
       have hF0 : upF E m (bl.map (·.1)) = (0, none) := by rw [upF, if_neg (by omega), if_neg (by simpa using h0), if_neg (by rw [hb0]; omega), hup, hke, List.drop_length]; simp [upG]
       have hxl : xs.length = k := by have := congrArg List.length hxs; simp only [List.length_map, List.length_take] at this; omega
       have hxs2 : xs.map (·.1) = bl.map (·.1) := by rw [hxs, List.take_of_length_le (by rw [hb0]; omega)]
       refine zBm rfl (zA4 (zAq zBk hs ?_)); intro w tr hK; replace hs := tr _ hs; clear tr; refine Q0 0 rfl rfl hK (Q6 2 rfl (o' := 0) zCp rfl sz3 rfl rfl rfl hK (Qd 3 rfl uz3 rfl (fun w hs => hs.cellAt 6 rfl rfl) hK (zAc [1] ⟨⟨_, rfl, ?_⟩, trivial⟩))); refine Qg en19 (zG5 (hs.arr [7, 0, 1, 2, 3, 4, 5, 6, 8] 9 (by decide))) ?_; clear hs; rintro _ w ⟨v113, rfl, hs⟩; clear hK; have hK := hs.arr [2, 3, 4, 5, 6, 7, 8, 1, 9] 10 (by decide); refine zA6 ⟨hK, ?_⟩; refine zAc [4] ⟨⟨_, rfl, ?_⟩, trivial⟩
       refine Qg en20 (zF6 hs m.id) ?_; clear hs; rintro _ w ⟨rfl, hs⟩; clear hK; have hK := hs.arr [2, 3, 4, 5, 6, 7, 8, 1, 9] 10 (by decide); refine zA6 ⟨hK, ?_⟩; refine Q5 5 rfl (v := .int .i64 _) rfl hK (zAs (by kernel_rfl) ?_); clear hK; replace hs : Mem g w (ucO b52 (upTo d l c E m s1 s2 (k, xs, (a3, c3), (a4, c4))) (m.id, 0, 0, 0) false (cells b10 (mfL m (ea, ec) (oa, oc)) 39 :: zDs l d ev V q cc n :: zB9 d dk :: L)) := hs.arr [2, 3, 4, 5, 6, 7, 8, 1, 9] 10 (by decide); refine zA4 (zA4 (zA2 (J0 rfl (Qa (zD5 rfl rfl) (zA6 (zB2 rfl ?_ ?_))))))
       ·
        intro h118; have g118 := of_decide_eq_true h118; refine zA4 (zAq zBk hs ?_); intro w tr hK; replace hs := tr _ hs; clear tr; refine Qd 0 rfl zCq rfl (fun w hs => hE.cellW hs 113 (by decide) rfl) hK (Q5 1 rfl (v := .pointer none) rfl hK (Q1 2 rfl rfl hK (zAs (by kernel_rfl) ?_))); clear hK; exact zAe (zEd (v := .pointer none) (v2 := zAk ad _) rfl rfl rfl ⟨_, rfl, Or.inr (Or.inl ⟨by rw [hF0], g118, rfl, hs.suffix 7 rfl⟩)⟩)
       ·
        intro h118; have g118 := of_decide_eq_false h118; refine zAd (zA4 (zA2 (J1 rfl (Qg en50 (jread_sl hE.uJ (hs.arr [8, 0, 1, 2, 3, 4, 5, 6, 7] 9 (by decide)) hj) ?_)))); clear hs; rintro _ w ⟨rfl, hs⟩; refine Jc rfl (Ju (v := .agg _) rfl rfl (Ju (v := .bool _) rfl rfl (Jg rfl rfl (zBj hs rfl ze103 ?_)))); clear hs; intro b21 w hs
        try simp only [zzs, zzz] at hs
        refine zAr hs 0 rfl rfl rfl zEa rfl rfl ?_; clear hs; intro w hs
        try simp only [zzs, zzz] at hs
        refine J5 rfl (J6 rfl (zA6 ?_)); replace hs : Mem g w (cells b21 (s4V (z1, z2, z3, z4)) 103 :: ucO b52 (upTo d l c E m s1 s2 (k, xs, (a3, c3), (a4, c4))) (m.id, 0, 0, 0) false (cells b10 (mfL m (ea, ec) (oa, oc)) 39 :: zDs l d ev V q cc n :: zB9 d dk :: L)) := hs.arr [0, 2, 3, 4, 5, 6, 7, 8, 9, 1] 10 (by decide); refine zA4 (zA4 (zA2 (J8 rfl (Jv (ad := ad) rfl (zA6 (zAz rfl (rfl) (zAd (zA4 (zA4 (zA2 (J2 rfl (J2 rfl ?_))))))))))))
        refine zB3 (t := _) (d := 130) rfl ?_ ?_
        ·
         intro h124; refine zAl rfl rfl h124 (Jp (o' := 0) zDg rfl sz3 rfl rfl rfl (zAl rfl rfl h124 (Qc uz3 rfl hs 0 rfl rfl (zAl rfl rfl h124 (Jp (o' := 0) zCp rfl sz3 rfl rfl rfl (zAl rfl rfl h124 (Qc uz3 rfl hs 7 rfl rfl (zAl rfl rfl h124 (Jw rfl rfl (Ja rfl h124 rfl ?_)))))))))); refine J2 rfl (zB3 (t := _) (d := 137) rfl ?_ ?_)
         ·
          intro h135; have g135 := of_decide_eq_true h135; refine zAl rfl rfl h135 (J0 rfl (zAl rfl rfl h135 (Jw rfl rfl (Ja rfl h135 rfl (J2 rfl (zB3 (t := _) (d := 141) rfl ?_ ?_))))))
          ·
           intro h139; have g139 := of_decide_eq_true h139; refine zAl rfl rfl h139 (J1 rfl (zAl rfl rfl h139 (Qa (zBd hs 0 rfl zDg zEa rfl) (zAl rfl rfl h139 (Qg en51 (fits_sl (t := (upTo d l c E m s1 s2 (k, xs, (a3, c3), (a4, c4)))) (z := (z1, z2, z3, z4)) (hs.arr [1, 2, 3, 4, 5, 6, 0, 7, 8, 9] 10 (by decide)) (show m.obs.length = xs.length by omega) hz) ?_))))); clear hs; rintro _ w ⟨rfl, hs⟩; refine Ja rfl h139 rfl (zA6 (zB2 rfl ?_ ?_))
           ·
            intro h144; refine zA2 (J1 rfl (Qa (zBd hs 6 rfl zDg zEa rfl) (Jx rfl (Jp (o' := 11) zDf rfl zEa rfl rfl rfl (zGt hs 0 (upL (upTo d l c E m s1 s2 (k, xs, (a3, c3), (a4, c4))) (z1, z2, z3, z4) false) rfl rfl rfl zEa rfl rfl rfl ?_))))); clear hs; intro w hs
            try simp only [zzs, zzz] at hs
            refine zA6 (zA4 (zA2 (J1 rfl (Jd rfl (J3 rfl (zA6 (zAe (zEd (v := .pointer (some _)) (v2 := .nilIface) rfl rfl rfl ?_)))))))); exact ⟨_, rfl, Or.inr (Or.inr ⟨by rw [hF0], by omega, b52, s1, s2, xs, (a3, c3), (a4, c4), rfl, hxs2, by rw [if_pos ⟨h124, g135, g139, by rw [← hxs2]; exact h144⟩]; exact Mem.closeUp (hs.arr [0, 1, 2, 3, 4, 5, 8, 9] 10 (by decide))⟩)⟩
           ·
            intro h144; refine zAd (zA4 (zA2 (J1 rfl (Jd rfl (J3 rfl (zA6 (zAe (zEd (v := .pointer (some _)) (v2 := .nilIface) rfl rfl rfl ?_)))))))); exact ⟨_, rfl, Or.inr (Or.inr ⟨by rw [hF0], by omega, b52, s1, s2, xs, (a3, c3), (a4, c4), rfl, hxs2, by rw [if_neg (fun h => absurd ((show fitsB E (xs.map (·.1)) (z1, z2, z3, z4) = true from by rw [hxs2]; exact h.2.2.2).symm.trans h144) (by decide))]; exact Mem.closeUp (hs.arr [0, 1, 2, 3, 4, 5, 8, 9] 10 (by decide))⟩)⟩
          ·
           intro h139; have g139 := of_decide_eq_false h139; refine Qe rfl rfl h139 (Qe rfl rfl h139 (Qe rfl rfl h139 (J9 rfl h139 rfl (zA6 (zAz rfl rfl (zAd (zA4 (zA2 (J1 rfl (Jd rfl (J3 rfl ?_))))))))))); refine zA6 (zAe (zEd (v := .pointer (some _)) (v2 := .nilIface) rfl rfl rfl ?_))
           exact ⟨_, rfl, Or.inr (Or.inr ⟨by rw [hF0], by omega, b52, s1, s2, xs, (a3, c3), (a4, c4), rfl, hxs2, by rw [if_neg (fun h => g139 h.2.2.1)]; exact Mem.closeUp (hs.arr [1, 2, 3, 4, 5, 6, 8, 9] 10 (by decide))⟩)⟩
         ·
          intro h135; have g135 := of_decide_eq_false h135; refine Qe rfl rfl h135 (Qe rfl rfl h135 (J9 rfl h135 rfl (J2 rfl (Qe rfl rfl rfl (Qe rfl rfl rfl (Qe rfl rfl rfl (J9 rfl rfl rfl (zA6 (zAz rfl rfl (zAd ?_)))))))))); refine zA4 (zA2 (J1 rfl (Jd rfl (J3 rfl (zA6 (zAe (zEd (v := .pointer (some _)) (v2 := .nilIface) rfl rfl rfl ?_)))))))
          exact ⟨_, rfl, Or.inr (Or.inr ⟨by rw [hF0], by omega, b52, s1, s2, xs, (a3, c3), (a4, c4), rfl, hxs2, by rw [if_neg (fun h => g135 h.2.1)]; exact Mem.closeUp (hs.arr [1, 2, 3, 4, 5, 6, 8, 9] 10 (by decide))⟩)⟩
        ·
         intro h124; refine Qe rfl rfl h124 (Qe rfl rfl h124 (Qe rfl rfl h124 (Qe rfl rfl h124 (Qe rfl rfl h124 (J9 rfl h124 rfl (J2 rfl (Qe rfl rfl rfl (Qe rfl rfl rfl (J9 rfl rfl rfl (J2 rfl ?_)))))))))); refine Qe rfl rfl rfl (Qe rfl rfl rfl (Qe rfl rfl rfl (J9 rfl rfl rfl (zA6 (zAz rfl rfl (zAd (zA4 (zA2 ?_))))))))
         refine J1 rfl (Jd rfl (J3 rfl (zA6 (zAe (zEd (v := .pointer (some _)) (v2 := .nilIface) rfl rfl rfl ?_))))); exact ⟨_, rfl, Or.inr (Or.inr ⟨by rw [hF0], by omega, b52, s1, s2, xs, (a3, c3), (a4, c4), rfl, hxs2, by rw [if_neg (fun h => by have h2 : is = false := h124; rw [h2] at h; exact absurd h.1 (by decide))]; exact Mem.closeUp (hs.arr [1, 2, 3, 4, 5, 6, 8, 9] 10 (by decide))⟩)⟩
end
section
open Go.RowKit
attribute [local irreducible] zAk
variable {g w : World} {L M : List HP} {ad : Nat → Addr} {p : Nat}
def mkM (id base : Nat) (fin : Int) (l : List Pr) : Mf := ⟨id, base, fin, 0, l, [(zDu id zGd base, 0, 0), (zDu id zEv base, 0, 0)]⟩
end
section
open Go.RowKit
attribute [local irreducible] zAk
variable {g w : World} {L M : List HP} {ad : Nat → Addr} {p : Nat} {V : Vw}
theorem aget_last {V : Vw} {id : Int} {a : Itm} (h : zAx V id = none) : zAx (V ++ [(id, a)]) id = some a := by rw [← al_end h, zB7]
theorem aput_last {V : Vw} {id : Int} {a b : Itm} (h : zAx V id = none) : zC1 (V ++ [(id, a)]) id b = V ++ [(id, b)] := by
  rw [zBe] at h
  induction V with
  | nil => simp [zC1]
  | cons x l ih =>
    obtain ⟨k, v⟩ := x; simp only [zAm, List.map_cons, List.mem_cons, not_or] at h; simp only [List.cons_append, zC1]; rw [if_neg (fun e => h.1 e.symm), ih h.2]
theorem Vw.apply_first {x : Mf} (hx : (mfF x).1 = 0) (h : zAx V x.id = none) (hl : V.length < 4096) : V.apply 1 x = ((0, none), V ++ [(x.id, ⟨1, x⟩)]) := by
  rw [Vw.apply_new hx (by omega) (by simp [Vw.state, h, nextB]) h, if_neg (by omega), al_end h]
theorem Vw.apply_last {x : Mf} {s k : Int} (hx : (mfF x).1 = 0) (h : zAx V x.id = none) (hn : nextB s k = true) : Vw.apply (V ++ [(x.id, ⟨s, x⟩)]) k x = ((0, none), V ++ [(x.id, ⟨k, x⟩)]) := by
  have hk := nextB_kind hn; rw [Vw.apply_old hx (by omega) (by simp [Vw.state, aget_last h, hn]) (aget_last h), if_pos rfl, aput_last h]
def stN (l : List Int) (id : Nat) : Nat := match l[id]? with | some z => (z % (5 : Nat)).toNat | none => 0
def madeV (l : List Int) (n : Nat) : Vw := (List.range n).filterMap fun id => if stN l id = 0 then none else some ((id : Int), ⟨(stN l id : Nat), oneM id (10 * id)⟩)
end
section
open Go.RowKit
attribute [local irreducible] zAk eV
variable {g w : World} {L M : List HP} {ad : Nat → Addr} {p u n q c d l : Nat} {dk : Dk} {st : St} {t : UpT} {a : S4} {ov : Bool} {V V0 V1 V2 : Vw} {osb K : List (ByteArray × List UInt8)} {cl : Bool}
def UgN (B R F : Nat) (j : Nat) (V : Vw) (q c n : Nat) (dk : Dk) : Prop := q = j ∧ c = j ∧ n = j * F ∧ dk.armed = 0 ∧ dk.room = R ∧ ∃ f mb, RawI UpN B f dk ∧ f mtN = some mb ∧ mb.length = n
theorem lgN (hM : ErrM ad g) {B R F : Nat} (hF : (mfB t.m).length + 17 = F) (h2 : 2 * F ≤ B) (hB : 60 ≤ B ∧ B ≤ 200000) (hR : 7 * B ≤ R) (hm : (mfF t.m).1 = 0) (hob : t.m.obs.length ≤ 1000000) (hsu : ∀ o ∈ t.m.obs, o.2.2 < 4294967296) :
    LgC ad g t (UgN B R F) [] [(t.m.id, ⟨1, t.m⟩)] [(t.m.id, ⟨2, t.m⟩)] := by
  have e1 : Vw.apply [] 1 t.m = ((0, none), [(t.m.id, ⟨1, t.m⟩)]) := Vw.apply_first hm rfl (by decide); have e2 : Vw.apply [(t.m.id, ⟨1, t.m⟩)] 2 t.m = ((0, none), [(t.m.id, ⟨2, t.m⟩)]) := Vw.apply_last (V := []) (s := 1) (k := 2) hm rfl rfl
  have h3 : 2 * UpN.length * B + B ≤ R := by show 2 * 3 * B + B ≤ R; omega
  have key : ∀ {j : Nat} {V V1 : Vw} {k : Int} {q c n : Nat} {dk : Dk} {w : World} {M : List HP}, j ≤ 1 → V.apply k t.m = ((0, none), V1) → UgN B R F j V q c n dk → dk.calls < 700000 → Mem g w (zDs t.l t.d 3 V q c n :: zB9 t.d dk :: M) → MfR g M t.m t.s1 t.s2 → Calls Tryz.prog 52 #[.pointer (some ⟨t.l, 0, none⟩), .agg (.int .i64 k :: mfL t.m t.s1 t.s2).toArray] w (Ret fun v w' => ∃ kr dk2 V' q' c' n', v = zAk ad kr ∧ (kr = 0 ∧ V' = V1 ∧ UgN B R F (j + 1) V1 q' c' n' dk2 ∧ dk2.calls ≤ dk.calls + 40) ∧ Mem g w' (zDs t.l t.d 3 V' q' c' n' :: zB9 t.d dk2 :: M)) := by
    intro j V V1 k q c n dk w M hj hap hl hcl hs hmr; obtain ⟨rfl, rfl, hn, ha, hr, f, mb, hI, hf, hmb⟩ := hl
    have hjF : c * F ≤ F := by
      rcases (show c = 0 ∨ c = 1 by omega) with rfl | rfl
      · simp
      · simp
    refine (appN_sl hM hs hI up_mt hB.2 hf hmb.symm (by omega) (by rw [hr]; exact h3) (by omega) (by omega) (by decide) (by rw [zF7, hF]; omega) hmr hob hsu (by rw [hap])).mono ?_; rintro _ w' ⟨v, rfl, kr, dk2, V', q', c', n', rfl, ⟨r1, r2, ⟨rfl, _, r3, rfl, rfl, rfl, rfl, r4⟩ | ⟨_, _, r3, _⟩⟩, hs⟩
    · refine ⟨_, rfl, 0, dk2, _, _, _, _, rfl, ⟨rfl, by rw [hap], ⟨rfl, rfl, by rw [zF7, hF, hmb, hn, Nat.add_mul, Nat.one_mul], r3 ha, by rw [r1, hr], _, _, r4, zD4 _ _ _, by rw [List.length_append]⟩, by omega⟩, hs⟩
    · exact absurd ha r3
  refine ⟨fun hl hc hs hm => key (by omega) e1 hl hc hs hm, fun hl hc hs hm => key (by omega) e2 hl hc hs hm, fun {q c n dk s} hl h4 => ?_, fun {q c n dk} hl => ?_, rfl, by simp [Vw.state, zAx], by simp [Vw.state, zAx]⟩
  · obtain ⟨r1, r2, hn, ha, hr, f, mb, hI, hf, hmb⟩ := hl
    obtain ⟨k, e, h5, h6, h7, ⟨rfl, _, h8, h9⟩ | ⟨_, _, h8, _⟩⟩ := hI.jput up_up upN_new h4 hB.1 (by rw [hr]; exact h3)
    · exact ⟨e, h5, by omega, fun he => ⟨r1, r2, hn, h8 ha, by rw [h6, hr], _, mb, h9 he, by rw [zCa _ _ mt_up]; exact hf, hmb⟩⟩
    · exact absurd ha h8
  · obtain ⟨r1, r2, hn, ha, hr, f, mb, hI, hf, hmb⟩ := hl
    obtain ⟨e, h5, h6, h7, h8, h9⟩ := hI.jgone ha up_up; exact ⟨e, h5, by omega, fun he => ⟨⟨r1, r2, hn, h8, by rw [h6, hr], _, mb, h9 he, by rw [zF1 mt_up]; exact hf, hmb⟩, ⟨_, _, h9 he, clrF_same _⟩⟩⟩
theorem UgN.zero {B R F : Nat} {f : ByteArray → Option (List UInt8)} (hI : RawI UpN B (zF9 f mtN []) dk) (ha : dk.armed = 0) (hr : dk.room = R) : UgN B R F 0 [] 0 0 0 dk := ⟨rfl, rfl, by simp, ha, hr, _, [], hI, zD4 _ _ _, rfl⟩
theorem NewR.fine {each : Int} {m : Mf} {bs : List (List UInt8)} {is : Bool} {z : S4} {R : List HP} {v : Value} {w' : World} (h : NewR ad g each m bs V d l c is z R v w') (h0 : (upF each m bs).1 = 0) (h1 : V.state m.id < 2) (h2 : is = false ∨ z.1 ≠ m.id ∨ V.state m.id ≠ 1) :
    ∃ u s1 s2 xs s3 s4, v = .tuple #[.pointer (some ⟨u, 0, none⟩), .nilIface] ∧ xs.map (·.1) = bs ∧ Mem g w' (UpC u ⟨d, l, c, m, s1, s2, each.toNat, xs, s3, s4⟩ (m.id, 0, 0, 0) false :: R) := by
  rcases h with ⟨h, _⟩ | ⟨_, h, _⟩ | ⟨_, _, u, s1, s2, xs, s3, s4, h3, h4, hs⟩
  · exact absurd h0 h
  · omega
  · rw [if_neg (by rintro ⟨g1, g2, g3, _⟩; rcases h2 with h2 | h2 | h2; rw [h2] at g1; cases g1; exact h2 g2; exact h2 g3)] at hs
    exact ⟨u, s1, s2, xs, s3, s4, h3, h4, hs⟩
def osM (m : Mf) (bs : List (List UInt8)) : List (ByteArray × List UInt8) := (m.obs.zip bs).map fun p => (p.1.1, p.2)
theorem osU_eq {xs : List (List UInt8 × SA)} {bs : List (List UInt8)} (h : t.xs.map (·.1) = bs) : osU t = osM t.m bs := by
  subst h
  unfold osU osM
  generalize t.m.obs = os; generalize t.xs = xs
  induction os generalizing xs with
  | nil => simp
  | cons o os ih => cases xs with
    | nil => simp
    | cons x xs => simp [ih]
theorem upOk_mk {each : Int} {bs : List (List UInt8)} {m : Mf} {s1 s2 s3 s4 : SA} {xs : List (List UInt8 × SA)} (h1 : 1 ≤ each ∧ each ≤ 1000) (hxs : xs.map (·.1) = bs) (hl : m.obs.length = bs.length) (h2 : bs.length ≤ 2) (hO : OsF osb) (hs : ∀ o ∈ osM m bs, o ∈ osb) (hid : 0 ≤ m.id ∧ m.id ≤ 2147483647) :
    UpOk osb ⟨d, l, c, m, s1, s2, each.toNat, xs, s3, s4⟩ := by
  have h3 : xs.length = bs.length := by rw [← hxs, List.length_map]
  exact ⟨⟨by simp only; omega, by simp only; omega⟩, by simp only; omega, by simp only; omega, hO, by rw [osU_eq (xs := xs) (bs := bs) hxs]; exact hs, hid⟩
theorem StI.start {Lg : Nat → Vw → Nat → Nat → Nat → Dk → Prop} (hp : PIn osb K st) (hcl : cl = true → st.script = [] ∧ st.ups = []) (hL : Lg 0 V0 q c n dk) : StI osb K t cl Lg V0 V1 V2 0 (t.m.id, 0, 0, 0) false V0 q c n dk st (restM t.each (osU t) + 2) := ⟨rfl, hL, .inl ⟨rfl, rfl, rfl, hp, hcl, rfl⟩⟩
theorem StI.zero {Lg : Nat → Vw → Nat → Nat → Nat → Dk → Prop} {s M0 : Nat} (h : StI osb K t cl Lg V0 V1 V2 s a ov V q c n dk st M0) : s = 2 ↔ M0 = 0 := by
  obtain ⟨_, _, ⟨rfl, _, _, _, _, rfl⟩ | ⟨rfl, _, _, _, rfl⟩ | ⟨rfl, _, _, _, _, rfl, _⟩⟩ := h
  · constructor <;> intro h <;> omega
  · constructor <;> intro h <;> omega
  · exact ⟨fun _ => rfl, fun _ => rfl⟩
theorem StI.done {Lg : Nat → Vw → Nat → Nat → Nat → Dk → Prop} {M0 : Nat} (h : StI osb K t cl Lg V0 V1 V2 2 a ov V q c n dk st M0) : V = V2 ∧ Lg 2 V2 q c n dk ∧ PIn osb (K ++ osU t) st ∧ (∀ o ∈ osU t, zAx st.objs o.1 = some o.2) ∧ (cl = true → st.ups = []) := by
  obtain ⟨hV, hl, ⟨h, _⟩ | ⟨h, _⟩ | ⟨_, _, h1, h2, h3, _⟩⟩ := h
  · cases h
  · cases h
  · have hV : V = V2 := hV
    subst hV; exact ⟨rfl, hl, h1, h2, fun hc => (h3 hc).2⟩
theorem StI.gone {Lg : Nat → Vw → Nat → Nat → Nat → Dk → Prop} {M0 : Nat} (h : StI osb K t cl Lg V0 V1 V2 2 a ov V q c n dk st M0) : GoneJ dk := by
  obtain ⟨hV, hl, ⟨h, _⟩ | ⟨h, _⟩ | ⟨_, _, _, _, _, _, h⟩⟩ := h
  · cases h
  · cases h
  · exact h
theorem StI.state {Lg : Nat → Vw → Nat → Nat → Nat → Dk → Prop} {s M0 : Nat} (hL : LgC ad g t Lg V0 V1 V2) (h : StI osb K t cl Lg V0 V1 V2 s a ov V q c n dk st M0) : V.state t.m.id = s ∧ s ≤ 2 := by
  obtain ⟨rfl, _, ⟨rfl, _⟩ | ⟨rfl, _⟩ | ⟨rfl, _⟩⟩ := h
  · exact ⟨hL.s0, by omega⟩
  · exact ⟨hL.s1, by omega⟩
  · exact ⟨hL.s2, by omega⟩
theorem obG_fine {each : Int} {o : Ob} {b : List UInt8} (h1 : 1 ≤ each ∧ each ≤ 1000) (hb : b.length ≤ 256) (hv : zBy o.1.data.toList = true) (hl : o.2.1 = (b.length : Nat)) (hc : o.2.2 = zC4 0 b) : obG each o b = 0 := by
  have hck : obCk o b = 0 := by rw [obCk, if_neg (by rw [hl]; exact fun h => h rfl), if_neg (by rw [hc]; exact fun h => h rfl)]
  have hP := zDv (n := b.length) (e := each.toNat) (by omega); rw [obG, if_neg (by rw [hck]; exact fun h => h rfl), mkR, if_neg (by rw [hv]; decide), if_neg (by omega), if_neg (by omega)]
theorem upF_two {each : Int} {m : Mf} {o1 o2 : Ob} {b1 b2 : List UInt8} (h1 : 1 ≤ each ∧ each ≤ 1000) (hm : (mfF m).1 = 0) (ho : m.obs = [o1, o2]) (g1 : obG each o1 b1 = 0) (g2 : obG each o2 b2 = 0) : (upF each m [b1, b2]).1 = 0 := by
  rw [upF, if_neg (by omega), if_neg (by rw [hm]; exact fun h => h rfl), if_neg (by rw [ho]; exact fun h => h rfl), ho]
  simp [upG, g1, g2]
end
section
open Go.RowKit
attribute [local irreducible] zAk eV
variable {g w : World} {L M : List HP} {ad : Nat → Addr} {p : Nat} {dk : Dk} {st : St} {f : ByteArray → Option (List UInt8)}
def mkG (id base : Nat) (fin time : Int) (l : List Pr) (x y : List UInt8) : Mf := ⟨id, base, fin, time, l, [(zDu id zGd base, (x.length : Nat), zC4 0 x), (zDu id zEv base, (y.length : Nat), zC4 0 y)]⟩
theorem obBad_len {n : ByteArray} {k c : Nat} (hk : k ≤ 1000) : zD7 (n, (k : Int), c) = zD7 (n, 0, 0) := by
  unfold zD7
  simp only
  split
  · rfl
  · rw [if_neg (by omega), if_neg (by omega)]
theorem obF_two {n1 n2 : ByteArray} {k1 k2 c1 c2 : Nat} (h : obF [(n1, 0, 0), (n2, 0, 0)] = (0, none)) (h1 : k1 ≤ 1000) (h2 : k2 ≤ 1000) : obF [(n1, (k1 : Int), c1), (n2, (k2 : Int), c2)] = (0, none) := by
  have b1 : zD7 (n1, 0, 0) = 0 := Decidable.byContradiction fun hb => by
    rw [obF_bad (i := 0) (by simp) rfl hb (fun j hj => by omega)] at h; exact hb (congrArg Prod.fst h)
  have b2 : zD7 (n2, 0, 0) = 0 := Decidable.byContradiction fun hb => by
    rw [obF_bad (i := 1) (by simp) rfl hb (fun j hj u hu => by
      have : j = 0 := by omega
      subst this
      cases hu
      exact b1)] at h
    exact hb (congrArg Prod.fst h)
  rw [obF_fine (by simp) (fun j u hu => by
    match j, hu with
    | 0, hu => cases hu; exact b1
    | 1, hu => cases hu; exact b2)] at h
  rw [obF_fine (by simp) (fun j u hu => by
    match j, hu with
    | 0, hu => cases hu; rw [obBad_len h1]; exact b1
    | 1, hu => cases hu; rw [obBad_len h2]; exact b2)]
  exact h
theorem mkG_F {id base : Nat} {fin time : Int} {l : List Pr} {x y : List UInt8} (h0 : mfF ⟨id, base, fin, time, l, [(zDu id zGd base, 0, 0), (zDu id zEv base, 0, 0)]⟩ = (0, none)) (hx : x.length ≤ 1000) (hy : y.length ≤ 1000) : mfF (mkG id base fin time l x y) = (0, none) := by
  unfold mfF at h0 ⊢
  have e1 : zBl (mkG id base fin time l x y) = zBl ⟨id, base, fin, time, l, [(zDu id zGd base, 0, 0), (zDu id zEv base, 0, 0)]⟩ := rfl; have e2 : zDh (mkG id base fin time l x y) = zDh ⟨id, base, fin, time, l, [(zDu id zGd base, 0, 0), (zDu id zEv base, 0, 0)]⟩ := rfl; have e3 : (mkG id base fin time l x y).eps = l := rfl; rw [e1, e2, e3]
  split at h0
  · cases h0
  · rename_i g1
    rw [if_neg g1]
    split at h0
    · rename_i g2; exact absurd (congrArg Prod.fst h0) g2
    · rename_i g2
      rw [if_neg g2]
      split at h0
      · cases h0
      · rename_i g3
        rw [if_neg g3]; exact obF_two h0 hx hy
set_option maxRecDepth 100000 in
set_option maxHeartbeats 2000000 in
theorem makeG_sl (hs : Mem g w L) {id base : Nat} {fin time : Int} {a a1 a2 : Option Addr} {n c c1 c2 : Nat} {l : List Pr} {x y : List UInt8} (hr : RdK g L 2 (.slice a n c) (l.map prL)) (hn : n = l.length) (hlen : 1 ≤ l.length ∧ l.length ≤ 1000000) (hx : Rd g L (.slice a1 x.length c1) (zAn x)) (hy : Rd g L (.slice a2 y.length c2) (zAn y)) (hxl : x.length ≤ 1000) (hyl : y.length ≤ 1000) (hid : id ≤ 2147483647) (hb : base ≤ 1099511627776) (hF : mfF (mkG id base fin time l x y) = (0, none)) :
    Calls Tryz.prog 14 #[.int .i64 id, .int .i64 base, .int .i64 fin, .int .i64 time, .slice a n c, .slice a1 x.length c1, .slice a2 y.length c2] w (Ret fun v w' => ∃ s1 s2 : SA, v = .tuple #[.agg (mfL (mkG id base fin time l x y) s1 s2).toArray, fltV (0, none)] ∧ Mem g w' (mfP (mkG id base fin time l x y) s1 s2 ++ L)) := by
  subst hn; refine zAh Tryz.func14 rfl rfl ?_
  refine zA4 (zA2 (zBj hs rfl ze39 ?_)); clear hs; intro b14 w hs
  try simp only [zzs, zzz] at hs
  refine zBj hs rfl ze42 ?_; clear hs; intro b15 w hs
  try simp only [zzs, zzz] at hs
  refine zA6 (zA4 (zA2 (J0 rfl (J0 rfl (J0 rfl (J0 rfl (J7 rfl (Qg en42 (copyPr_sl hs hr.cons.cons rfl hlen) ?_)))))))); clear hs; rintro _ w ⟨s1, rfl, hs⟩; refine Qa (zBw (cs := [.int .i64 id, .int .i64 base, .int .i64 fin, .int .i64 time, .slice s1.1 l.length s1.2, .slice none 0 0]) zCp ze39 pl39 rfl) (zBj hs rfl ze39 ?_); clear hs; intro b16 w hs
  try simp only [zzs, zzz] at hs
  refine zAr hs 0 rfl rfl rfl zEt rfl rfl ?_; clear hs; intro w hs
  try simp only [zzs, zzz] at hs
  refine zA6 (zA4 (zA2 (J0 rfl (J0 rfl (Qg en43 (objNm_sl hs id base zGd hid hb (by decide) (by decide)) ?_))))); clear hs; rintro _ w ⟨rfl, hs⟩; refine J7 rfl (Js zC6 rfl (J7 rfl (Qg en44 (hs.callsE (refSum_any (w := w) (b := .slice a1 x.length c1) (l := x) ((hx.cons.cons.cons.cons).seq hs) (by omega))) ?_))); clear hs; rintro _ w ⟨rfl, hs⟩
  refine Qa (zBg ([.string (zDu id zGd base), .int .i64 ((x.length : Nat) : Int), .int .u32 ((zC4 0 x : Nat) : Int)]) zG2 ze66 pl66 rfl (by simp [Value.cells]) rfl rfl) (J0 rfl (J0 rfl (Qg en43 (objNm_sl hs id base zEv hid hb (by decide) (by decide)) ?_))); clear hs; rintro _ w ⟨rfl, hs⟩; refine J7 rfl (Js zC6 rfl (J7 rfl (Qg en44 (hs.callsE (refSum_any (w := w) (b := .slice a2 y.length c2) (l := y) ((hy.cons.cons.cons.cons).seq hs) (by omega))) ?_))); clear hs; rintro _ w ⟨rfl, hs⟩
  refine Qa (zBg ([.string (zDu id zEv base), .int .i64 ((y.length : Nat) : Int), .int .u32 ((zC4 0 y : Nat) : Int)]) zG2 ze66 pl66 rfl (by simp [Value.cells]) rfl rfl) (lw_build2 hs rfl (r1 := obL (zDu id zGd base, (x.length : Nat), zC4 0 x)) (r2 := obL (zDu id zEv base, (y.length : Nat), zC4 0 y)) zD zsOb rfl rfl (fill_ob _ _ _ _ _ _) (by decide) (by decide) ?_); clear hs; intro b41 w hs; replace hs := hs.asRows 0 rfl (m := 2) (k := 3) (rows := [obL (zDu id zGd base, (x.length : Nat), zC4 0 x), obL (zDu id zEv base, (y.length : Nat), zC4 0 y)]) rfl rfl (obL_rows [(zDu id zGd base, (x.length : Nat), zC4 0 x), (zDu id zEv base, (y.length : Nat), zC4 0 y)])
  simp only [List.set_cons_zero] at hs; refine Jp (o' := 5) zCp rfl sz37 rfl rfl rfl (zB0 (v := .slice _ _ _) hs 1 rfl sz37 rfl rfl rfl rfl ?_); clear hs; intro w hs
  try simp only [zzs, zzz] at hs
  refine zA6 (zA4 (zA2 (Qa (zBd hs 1 rfl zCp zEt rfl) (Qg en23 (rManifest_sl (m := mkG id base fin time l x y) (e := s1) (o := (some ⟨b41, 0, none⟩, 2)) hs (MfR.own 2 0 rfl rfl) (by simp [mkG])) ?_)))); clear hs; rintro _ w ⟨rfl, hs⟩; rw [hF]; refine zBj hs rfl ze42 ?_; clear hs; intro b17 w hs
  try simp only [zzs, zzz] at hs
  refine zAr hs 0 rfl rfl rfl zGe rfl rfl ?_; clear hs; intro w hs
  try simp only [zzs, zzz] at hs
  refine zA6 (zA4 (zA4 (zA2 (Jp (o' := 0) uz42 rfl sz3 rfl rfl rfl (Qc uz3 rfl hs 0 rfl rfl (Qa (zDy rfl rfl) (zA6 (zAz rfl (rfl) (zAd (zA4 (zAq zBk ((hs.drop 5).drop 4) ?_))))))))))); intro w tr hK; replace hs := tr _ hs; clear tr; refine Qb 0 rfl (fun w hs => zBd hs 2 rfl zCp zEt rfl) hK (zAc [1] ⟨⟨_, rfl, ?_⟩, trivial⟩); refine Qg en22 (none_sl hs) ?_; clear hs; rintro _ w ⟨rfl, hs⟩; clear hK; have hK := (hs.drop 5).drop 4; refine zA6 ⟨hK, ?_⟩; refine zAc [2] ⟨⟨_, rfl, ?_⟩, trivial⟩
  refine zAr hs 5 rfl rfl rfl zEt rfl rfl ?_; clear hs; intro w hs
  try simp only [zzs, zzz] at hs
  clear hK; have hK := (hs.drop 5).drop 4; refine zA6 ⟨hK, ?_⟩; refine zAc [3] ⟨⟨_, rfl, ?_⟩, trivial⟩; refine zAr hs 4 rfl rfl rfl zGe rfl rfl ?_; clear hs; intro w hs
  try simp only [zzs, zzz] at hs
  clear hK; have hK := (hs.drop 5).drop 4; refine zA6 ⟨hK, ?_⟩; refine zAs (by kernel_rfl) ?_; clear hK; exact zAe (resG [(.cell 14 39, .agg _), (.cell 15 42, .agg _)] rfl ⟨⟨_, rfl, zC3 hs 5 rfl zCp zEt⟩, ⟨_, rfl, zC3 hs 4 rfl uz42 zGe⟩, trivial⟩ ⟨_, rfl, s1, (some ⟨b41, 0, none⟩, 2), rfl, hs.arr [3, 1] 6 (by decide)⟩)
abbrev zC7 (id : Nat) (x y : List UInt8) : Mf := mkG id 10 20 5 [(1, 10)] x y
theorem man21_sl (hs : Mem g w L) {id : Nat} (hid : id ≤ 2147483647) {a1 a2 : Option Addr} {c1 c2 : Nat} {x y : List UInt8} (hx : Rd g L (.slice a1 x.length c1) (zAn x)) (hy : Rd g L (.slice a2 y.length c2) (zAn y)) (hxl : x.length ≤ 1000) (hyl : y.length ≤ 1000) (hF : mfF (zC7 id x y) = (0, none)) :
    Calls Tryz.prog 13 #[.int .i64 id, .slice a1 x.length c1, .slice a2 y.length c2] w (Ret fun v w' => ∃ s1 s2 : SA, v = .agg (mfL (zC7 id x y) s1 s2).toArray ∧ Mem g w' (mfP (zC7 id x y) s1 s2 ++ L)) := by
  refine zAh Tryz.func13 rfl rfl ?_
  refine zA4 (zA2 (zBj hs rfl ze39 ?_)); clear hs; intro b6 w hs
  try simp only [zzs, zzz] at hs
  refine zA6 (zA4 (zA2 (J0 rfl (Qa (zBg ([.int .i64 1, .int .i64 10]) uz46 ze46 pl46 rfl (by simp [Value.cells]) rfl rfl) (zBf hs rfl (row := prL (1, 10)) zE zsPr rfl (fill_pr _ _) (by decide) (by decide) ?_))))); clear hs; intro b12 w hs; refine J7 rfl (J7 rfl (Qg en14 (makeG_sl hs (id := id) (base := 10) (fin := 20) (time := 5) (l := [(1, 10)]) (RdK.one 0 rfl rfl) rfl (by simp) hx.cons.cons hy.cons.cons hxl hyl hid (by omega) hF) ?_)); clear hs; rintro _ w ⟨s1, s2, rfl, hs⟩; refine Jc rfl ?_
  refine Ju (v := .agg _) rfl rfl (Ju (v := .agg _) rfl rfl (zBj hs rfl ze39 ?_)); clear hs; intro b7 w hs
  try simp only [zzs, zzz] at hs
  refine zBj hs rfl ze42 ?_; clear hs; intro b8 w hs
  try simp only [zzs, zzz] at hs
  refine zAr hs 1 rfl rfl rfl zEt rfl rfl ?_; clear hs; intro w hs
  try simp only [zzs, zzz] at hs
  refine zAr hs 0 rfl rfl rfl zGe rfl rfl ?_; clear hs; intro w hs
  try simp only [zzs, zzz] at hs
  refine zA6 (zA4 (zA2 (Qa (zBd hs 1 rfl zCp zEt rfl) (zAr hs 5 rfl rfl rfl zEt rfl rfl ?_)))); clear hs; intro w hs
  try simp only [zzs, zzz] at hs
  exact zA6 (zAe (resG [(.cell 6 39, .agg _)] rfl ⟨⟨_, rfl, zC3 hs 5 rfl zCp zEt⟩, trivial⟩ ⟨_, rfl, s1, s2, rfl, hs.arr [2, 3] 6 (by decide)⟩))
theorem opened_sl (hM : ErrM ad g) (hG : ErrG ad g) (hs : Mem g w (zB9 p dk :: L)) {sp : Nat} {N : List ByteArray} {B : Nat} (hI : RawI N B f dk) (hmt : mtN ∈ N) (hsn : snN ∈ N) (ha : dk.armed = 0) (hcl : dk.calls < 800000) (hfn : f snN = none) (hfm : f mtN = none) {tr : Int} (htr : 1 ≤ tr ∧ tr ≤ 8) :
    Calls Tryz.prog 12 #[.pointer (some ⟨p, 0, none⟩), .pointer (some ⟨sp, 0, none⟩), .int .i64 tr] w (Ret fun v w' => ∃ l c dk2, v = .tuple #[.pointer (some ⟨l, 0, none⟩), .pointer (some ⟨c, 0, none⟩)] ∧ dk2.armed = 0 ∧ dk2.room = dk.room ∧ dk2.calls ≤ dk.calls + 2 ∧ RawI N B (zF9 f mtN []) dk2 ∧ Mem g w' (zBh c sp tr 0 :: zDs l p 3 [] 0 0 0 :: zB9 p dk2 :: L)) := by
  refine zAh Tryz.func12 rfl rfl ?_
  refine zA4 (zA2 (Jf rfl (Jf rfl (zA6 (zA4 (zA2 (J1 rfl (Qg en40 (openN_sl (ev := 3) hM hs hI hmt hsn ha hcl (by decide) hfn hfm) ?_)))))))); clear hs; rintro _ w ⟨l, dk2, rfl, k1, k2, k3, k4, hs⟩; refine Jc rfl (Ju (v := .pointer (some _)) rfl rfl (Jk rfl rfl (Jd rfl (J3 rfl (zA6 (zA4 (zA2 (J1 rfl ?_))))))))
  refine J0 rfl (Qg en41 (clnew_sl hG hs htr) ?_); clear hs; rintro _ w ⟨c, rfl, hs⟩; refine Jc rfl (Ju (v := .pointer (some _)) rfl rfl (Jk rfl rfl (Jd rfl (J3 rfl (zA6 (zA4 (zA4 (zA2 (J1 rfl (Qa (zDj uz32 rfl rfl) (J2 rfl ?_))))))))))); refine zAl rfl rfl (rfl) (J1 rfl (zAl rfl rfl (rfl) ?_))
  refine Qa (zDj uz33 rfl rfl) (J9 rfl (rfl) rfl (J2 rfl (zAl rfl rfl (rfl) (Jj rfl (zAl rfl rfl (rfl) (Jz rfl (J9 rfl (rfl) rfl (J2 rfl (zAl rfl rfl (rfl) (Jj rfl ?_)))))))))); refine zAl rfl rfl (rfl) (Jz rfl (J9 rfl (rfl) rfl (zA6 (zAz rfl (rfl) (zAd (zA4 (zA2 (J1 rfl ?_))))))))
  exact J1 rfl (Jd rfl (Jd rfl (zA6 (zAe (zEd (v := .pointer (some _)) (v2 := .pointer (some _)) rfl rfl rfl ⟨_, rfl, l, c, dk2, rfl, k1, k2, k3, k4, hs⟩)))))
end
section
open Go.RowKit
def NumPost (b : Nat) (w : World) (e : Ending) (w' : World) : Prop := ∃ r : Nat, r < b ∧ e = .returned (.int .i64 r) ∧ w' = w
def NumLit (b : Int) (w : World) (e : Ending) (w' : World) : Prop := ∃ r : Nat, (r : Int) < b ∧ e = .returned (.int .i64 r) ∧ w' = w
theorem oneU8 (l : List UInt8) {i : Nat} {v : Value} (h : (zAn l)[i]? = some v) : ∃ x, l[i]? = some x ∧ v = .int .u8 x.toNat := by
  simp only [zAn, List.getElem?_map, Option.map_eq_some_iff] at h; obtain ⟨x, hx, rfl⟩ := h; exact ⟨x, hx, rfl⟩
set_option maxRecDepth 100000 in
theorem sameBytes_any {w : World} {a b : Value} {l : List UInt8} (ha : zEs w a (zAn l)) (hb : zEs w b (zAn l)) (hlen : l.length ≤ 1073741824) : Calls Tryz.prog 55 #[a, b] w (BoolNew true w) := by
  have HA := Lib.hid ha; have HB := Lib.hid hb; obtain ⟨aa, an, ac, rfl, hal, ha2⟩ := id ha; obtain ⟨ba, bn, bc, rfl, hbl, hb2⟩ := id hb
  have hal' : an = l.length := by simpa [zAn] using hal
  have hbl' : bn = l.length := by simpa [zAn] using hbl
  clear hal hbl; subst hal'; subst hbl'; clear ha hb ha2 hb2
  go_enter Tryz.func55, Tryz.ntmps55
  go_wp2
  go_loopw [5, 6] (fun i same wr => ∃ k : Nat, k ≤ l.length ∧ i = .int .i64 k ∧ Below w.heap.size w wr) (fun i _ _ => l.length - (intOf i).toNat)
  case atStart => exact ⟨0, Nat.zero_le _, rfl, Below.refl _ _⟩
  case round =>
    obtain ⟨k, hk, rfl, hbel⟩ := hrel; have Hbel := Lib.hid hbel; clear hbel
    by_cases hkl : k < l.length
    · obtain ⟨b1, o1, rfl, lt1, hc1⟩ := HA.out.cell hkl
      obtain ⟨b2, o2, rfl, lt2, hc2⟩ := HB.out.cell hkl
      have hk' : k < (zAn l).length := by simpa [zAn] using hkl
      have c1 : wr.cell? ⟨b1, o1 + k, none⟩ = some (zAn l)[k] := (Hbel.out.cell (p := ⟨b1, o1 + k, none⟩) lt1).trans (hc1 k hk'); have c2 : wr.cell? ⟨b2, o2 + k, none⟩ = some (zAn l)[k] := (Hbel.out.cell (p := ⟨b2, o2 + k, none⟩) lt2).trans (hc2 k hk'); obtain ⟨x, _, hx⟩ := oneU8 l (List.getElem?_eq_getElem hk'); rw [hx] at c1 c2; clear hc1 hc2 hx hk'
      go_wp2
      go_region_held3 (fun w' => w'.cell? ⟨b1, o1 + k, none⟩ = some (.int .u8 x.toNat) ∧ w'.cell? ⟨b2, o2 + k, none⟩ = some (.int .u8 x.toNat)) (go_keep) (first | (fail))
      go_wp2
      go_roundw
      case rel =>
        exact ⟨k + 1, by omega, by go_num, Hbel.out.drew⟩
      case measure => simp [intOf]; omega
    · have : k = l.length := by omega
      subst this
      go_wp2
      go_ret
      exact ⟨rfl, Hbel.out⟩
end
section
open Go.RowKit
attribute [local irreducible] zAk eV
variable {g w : World} {L M : List HP} {ad : Nat → Addr} {p u n q c d l : Nat} {dk : Dk} {st : St} {V : Vw}
theorem sameBytes_sl (hs : Mem g w L) {a b : Value} {l : List UInt8} (ha : Rd g L a (zAn l)) (hb : Rd g L b (zAn l)) (hlen : l.length ≤ 1073741824) : Calls Tryz.prog 55 #[a, b] w (Ret fun v w' => v = .bool true ∧ Mem g w' L) := by
  have h := hs.calls (sameBytes_any (ha.seq hs) (hb.seq hs) hlen); exact h
theorem laid_sl (hs : Mem g w (zB8 p st :: L)) (hsm : st.small) {m : Mf} {e o : SA} (hm : MfR g L m e o) {o0 o1 : Ob} (h0 : m.obs[0]? = some o0) (h1 : m.obs[1]? = some o1) {x y : List UInt8} (hx : zAx st.objs o0.1 = some x) (hy : zAx st.objs o1.1 = some y) {a1 a2 : Option Addr} {c1 c2 : Nat} (hr1 : Rd g L (.slice a1 x.length c1) (zAn x)) (hr2 : Rd g L (.slice a2 y.length c2) (zAn y)) (hxl : x.length ≤ 1000) (hyl : y.length ≤ 1000) :
    Calls Tryz.prog 18 #[.pointer (some ⟨p, 0, none⟩), .agg (mfL m e o).toArray, .slice a1 x.length c1, .slice a2 y.length c2] w (Ret fun v w' => v = .bool true ∧ Mem g w' (zB8 p st :: L)) := by
  obtain ⟨oa, oc⟩ := o; have hl2 := (List.getElem?_eq_some_iff.1 h1).1; refine zAh Tryz.func18 rfl rfl ?_
  refine zA4 (zA2 (zBp (v := .agg _) hs rfl rfl ?_)); clear hs; intro b5 w hs
  try simp only [zzs, zzz] at hs
  refine J5 rfl (zA6 (zA4 ?_)); obtain ⟨bo, oo, rfl⟩ := hm.obs.at (hs.suffix 2 rfl) (by rw [zEz]; omega); refine zA2 (J1 rfl (Jp (o' := 5) zCp rfl sz37 rfl rfl rfl (Qc zD rfl hs 0 rfl rfl (Qa (zAy zD sz66 rfl rfl (i := 0) rfl (show 0 < m.obs.length by omega) rfl) (Jp zG2 rfl sz9 rfl rfl rfl (Jq uz9 rfl rfl (hm.obs.cell (hs.suffix 2 rfl) (zG9 h0) (j := 0) rfl) (Qg en39 (bytes_sl (hs.arr [1, 0] 2 (by decide)) hsm o0.1 hx) ?_))))))); clear hs; rintro _ w ⟨a20, c20, rfl, hs⟩
  refine Jc rfl (Ju (v := .slice _ _ _) rfl rfl (Ju (v := .bool _) rfl rfl (Jb rfl (J5 rfl (zA6 (zA4 (zA2 (J1 rfl (Jp (o' := 5) zCp rfl sz37 rfl rfl rfl (Qc zD rfl hs 2 rfl rfl (Qa (zAy zD sz66 rfl rfl (i := 1) rfl (show 1 < m.obs.length by omega) rfl) (Jp zG2 rfl sz9 rfl rfl rfl ?_)))))))))))); refine Jq uz9 rfl rfl (hm.obs.cell (hs.suffix 3 rfl) (zG9 h1) (j := 0) rfl) ?_
  refine Qg en39 (bytes_sl (hs.arr [1, 0, 2] 3 (by decide)) hsm o1.1 hy) ?_; clear hs; rintro _ w ⟨a30, c30, rfl, hs⟩; refine Jc rfl (Ju (v := .slice _ _ _) rfl rfl (Ju (v := .bool _) rfl rfl (Jb rfl (J5 rfl (zA6 (zA4 (zA2 (J2 rfl (J2 rfl (zAl rfl rfl (rfl) (J2 rfl (Ja rfl (rfl) rfl ?_)))))))))))); refine J2 rfl (zAl rfl rfl (rfl) ?_)
  refine J7 rfl (zAl rfl rfl (rfl) (J7 rfl (zAl rfl rfl (rfl) (Qg en55 (sameBytes_sl hs (l := x) (hs.rdOwn 2 rfl) (fun w hs => hr1 w (hs.suffix 4 rfl)) (by omega)) ?_)))); clear hs; rintro _ w ⟨rfl, hs⟩; refine Ja rfl (rfl) rfl (J2 rfl (zAl rfl rfl (rfl) (J7 rfl (zAl rfl rfl (rfl) (J7 rfl (zAl rfl rfl (rfl) (Qg en55 (sameBytes_sl hs (l := y) (hs.rdOwn 0 rfl) (fun w hs => hr2 w (hs.suffix 4 rfl)) (by omega)) ?_)))))))
  clear hs; rintro _ w ⟨rfl, hs⟩; exact Ja rfl (rfl) rfl (J5 rfl (zA6 (zAe (zBi (v := .bool _) rfl rfl ⟨_, rfl, rfl, hs.arr [1] 4 (by decide)⟩))))
theorem is_at {is : Bool} {s' M' i k : Nat} (his : is = decide (s' = 2)) (hz : s' = 2 ↔ M' = 0) (hM : M' + i = k) : (!is == decide ((i : Int) = (k : Int))) = false := by
  have h : decide (s' = 2) = decide ((i : Int) = (k : Int)) := decide_eq_decide.2 ⟨fun h => by have := hz.1 h; omega, fun h => hz.2 (by omega)⟩; rw [his, h]
  simp
def bAB : List UInt8 := [97, 98]
def man0 : Mf := { zC7 0 bAB [] with obs := (zC7 0 bAB []).obs.take 1 }
theorem man0_F : (mfF man0).1 = 0 := by decide +kernel
theorem man21_0F : mfF (zC7 0 bAB []) = (0, none) := mkG_F (by decide +kernel) (by decide) (by decide)
theorem man0_up : (upF 10 man0 [bAB]).1 = 0 := by decide +kernel
theorem man0_len : (mfB man0).length ≤ 4000 := by decide +kernel
theorem man0_sum : ∀ o ∈ man0.obs, o.2.2 < 4294967296 := by decide +kernel
def osb0 : List (ByteArray × List UInt8) := osM man0 [bAB]
theorem osb0_F : OsF osb0 := by
  have h0 : osb0 = [(zDu 0 zGd 10, bAB)] := rfl; rw [h0]; refine ⟨fun n b b' h1 h2 => ?_, fun n b h => ?_, fun n b h => ?_⟩
  · simp only [List.mem_cons, Prod.mk.injEq, List.not_mem_nil, or_false] at h1 h2
    rw [h1.2, h2.2]
  · simp only [List.mem_cons, Prod.mk.injEq, List.not_mem_nil, or_false] at h
    rw [h.2]; decide
  · simp only [List.mem_cons, Prod.mk.injEq, List.not_mem_nil, or_false] at h
    rw [h.1]; decide +kernel
set_option maxRecDepth 100000 in
set_option maxHeartbeats 4000000 in
theorem first21_sl (hE : ErrU ad g) (hs : Mem g w L) : Calls Tryz.prog 8 #[] w (Ret fun v w' => v = .bool true ∧ Mem g w' L) := by
  refine zAh Tryz.func8 rfl rfl ?_
  refine zA4 (zA2 (J5 rfl (zA6 (zA4 (zA2 (Qg en10 (newd_sl hs (r := 65536) (by decide) (by decide)) ?_)))))); clear hs; rintro _ w ⟨d, rfl, hs⟩; refine Jc rfl (Ju (v := .pointer (some _)) rfl rfl (Jk rfl rfl (Jd rfl (J3 rfl (zA6 (zA4 (zA4 (zA2 (J1 rfl (Qa (zDj uz25 rfl rfl) (J2 rfl ?_))))))))))); refine zAl rfl rfl (rfl) ?_
  refine Jj rfl (zAl rfl rfl (rfl) (Jz rfl (J9 rfl (rfl) rfl (zA6 (zAz rfl (rfl) (zAd (zA4 (zA2 (Qg en11 (new_sl hs) ?_))))))))); clear hs; rintro _ w ⟨sp, rfl, hs⟩; refine Jd rfl (zA6 (zA4 (zA2 (J1 rfl (J1 rfl (Qg en12 (opened_sl hE.uM hE.uG (hs.arr [1, 0] 2 (by decide)) (N := UpN) (B := 9000) (RawI.start (by decide)) up_mt up_sn rfl (by decide) rfl rfl (tr := 1) (by decide)) ?_)))))); clear hs
  rintro _ w ⟨l, c, dk2, rfl, k1, k2, k3, k4, hs⟩; refine Jc rfl (Ju (v := .pointer (some _)) rfl rfl (Ju (v := .pointer (some _)) rfl rfl (Jd rfl (Jd rfl (zA6 (zA4 (zA4 (zA2 (J1 rfl (Qa (zDj uz32 rfl rfl) (zA6 ?_))))))))))); refine zAz rfl (rfl) (zAd (zA4 (zA2 (zB4 hs rfl ([.int .u8 97, .int .u8 98]) zC6 zs5 rfl (by simp [Value.cells]) rfl rfl rfl ?_)))); clear hs; intro b33 w hs
  try simp only [zzs, zzz] at hs
  refine lw_constBytes hs rfl 0 rfl rfl zC6 uz5 rfl ?_; clear hs; intro w hs
  try simp only [zzs, zzz] at hs
  refine Qg en13 (man21_sl hs (id := 0) (x := bAB) (y := []) (by decide) (Rd.rd 0 rfl) Rd.nil (by decide) (by decide) man21_0F) ?_; clear hs; rintro _ w ⟨s1, s2, rfl, hs⟩; refine zBj hs rfl ze39 ?_; clear hs; intro b6 w hs
  try simp only [zzs, zzz] at hs
  refine zAr hs 0 rfl rfl rfl zEt rfl rfl ?_; clear hs; intro w hs
  try simp only [zzs, zzz] at hs
  refine zA6 (zA4 ?_); obtain ⟨s2a, s2c⟩ := s2; have hcap : 2 ≤ s2c := (RdK.row (k := 3) (v := .slice s2a 2 s2c) (rows := (zC7 0 bAB []).obs.map obL) 2 rfl).cap hs; obtain ⟨b2, o2, rfl⟩ := (RdK.row (k := 3) (v := .slice s2a 2 s2c) (rows := (zC7 0 bAB []).obs.map obL) 2 rfl).at hs (by decide); refine zA2 (Jp (o' := 5) zCp rfl sz37 rfl rfl rfl (Qc zD rfl hs 0 rfl rfl (Qa (run_sliceToK zD sz66 rfl rfl (hi := 1) rfl (by omega) (.inr ⟨_, _, rfl⟩)) (Jp (o' := 5) zCp rfl sz37 rfl rfl rfl (zB0 (v := .slice _ _ _) hs 0 rfl sz37 rfl rfl rfl rfl ?_))))); clear hs; intro w hs
  try simp only [zzs, zzz] at hs
  refine zA6 ?_; replace hs : Mem g w (cells b6 (mfL man0 s1 (some ⟨b2, o2, none⟩, s2c)) 39 :: zE0 2 (.slice s1.1 man0.eps.length s1.2) (man0.eps.map prL) :: zE0 3 (.slice (some ⟨b2, o2, none⟩) (zC7 0 bAB []).obs.length s2c) ((zC7 0 bAB []).obs.map obL) :: rd (.slice (some ⟨b33, 0, none⟩) 2 2) (zAn bAB) :: zBh c sp 1 0 :: zDs l d 3 [] 0 0 0 :: zB9 d dk2 :: zB8 sp St.empty :: L) := hs; refine zA4 (zA2 (J1 rfl (J1 rfl (J1 rfl (Qa (zCj hs 0 (mfL man0 s1 (some ⟨b2, o2, none⟩, s2c)) rfl zCp zEt rfl rfl) ?_)))))
  refine zB4 hs rfl ([.int .u8 97, .int .u8 98]) zC6 zs5 rfl (by simp [Value.cells]) rfl rfl rfl ?_; clear hs; intro b45 w hs
  try simp only [zzs, zzz] at hs
  refine lw_constBytes hs rfl 0 rfl rfl zC6 uz5 rfl ?_; clear hs; intro w hs
  try simp only [zzs, zzz] at hs
  refine zB4 hs rfl ([bV (bAB, (some ⟨b45, 0, none⟩, 2))]) uz62 zs22 rfl (fun u hu => (by simp only [List.mem_cons, List.not_mem_nil, or_false] at hu; subst hu; rfl)) rfl rfl rfl ?_; clear hs; intro b47 w hs
  try simp only [zzs, zzz] at hs
  refine Qg en15 (upNew_sl hE (hs.arr [7, 8, 0, 1, 2, 3, 4, 5, 6, 9] 10 (by decide)) (each := 10) (inI (by omega) (by omega)) (m := man0) (e := s1) (o := (some ⟨b2, o2, none⟩, s2c)) ⟨RdK.row 3 rfl, (RdK.row (k := 3) (v := .slice (some ⟨b2, o2, none⟩) 2 s2c) (rows := (zC7 0 bAB []).obs.map obL) 4 rfl).take (hi := 1) (by decide)⟩ (by decide) (fun _ => by decide) (bl := [(bAB, (some ⟨b45, 0, none⟩, 2))]) (Rd.cells 0 rfl rfl) (fun x hx => by simp only [List.mem_cons, List.not_mem_nil, or_false] at hx; subst hx; exact Rd.rd 1 rfl) (fun x hx => by simp only [List.mem_cons, List.not_mem_nil, or_false] at hx; subst hx; show 2 ≤ 1048576; decide) (is := false) (z := (0, 0, 0, 0)) (k4.jnone up_up (zCa _ _ mt_up.symm)) (by decide)) ?_
  clear hs; rintro _ w hN; obtain ⟨u, t1, t2, xs, s3, s4, rfl, hxs, hs⟩ := hN.fine man0_up (show (0 : Int) < 2 by decide) (.inl rfl); refine Jc rfl (Ju (v := .pointer (some _)) rfl rfl (Jk rfl rfl (Jd rfl (J3 rfl (zA6 (zA4 (zA4 (zA2 (J1 rfl (Qa (zDj uz47 rfl rfl) (J2 rfl ?_))))))))))); refine zAl rfl rfl rfl (Jj rfl (zAl rfl rfl rfl (Jz rfl ?_)))
  refine J9 rfl rfl rfl (zA6 (zAz rfl (rfl) (zAd (zA4 (zA4 ?_))))); have hU : UpOk osb0 ⟨d, l, c, man0, t1, t2, 10, xs, s3, s4⟩ := upOk_mk (each := 10) (bs := [bAB]) (by omega) hxs rfl (by decide) osb0_F (fun o h => h) (by decide); have hL : LgC ad g ⟨d, l, c, man0, t1, t2, 10, xs, s3, s4⟩ (UgN 9000 65536 ((mfB man0).length + 17)) [] [(man0.id, ⟨1, man0⟩)] [(man0.id, ⟨2, man0⟩)] := lgN hE.uM rfl (by have := man0_len; omega) (by decide) (by decide) man0_F (show man0.obs.length ≤ 1000000 by decide) man0_sum
  obtain ⟨R, hR⟩ : ∃ R, R = cells b6 (mfL man0 s1 (some ⟨b2, o2, none⟩, s2c)) 39 :: zE0 2 (.slice s1.1 man0.eps.length s1.2) (man0.eps.map prL) :: zE0 3 (.slice (some ⟨b2, o2, none⟩) (zC7 0 bAB []).obs.length s2c) ((zC7 0 bAB []).obs.map obL) :: L := ⟨_, rfl⟩
  replace hs : Mem g w (UpC u ⟨d, l, c, man0, t1, t2, 10, xs, s3, s4⟩ (man0.id, 0, 0, 0) false :: zBh c sp ((0 + 1 : Nat) : Int) ((0 : Nat) : Int) :: zB8 sp St.empty :: zDs l d 3 [] 0 0 0 :: zB9 d dk2 :: R) := by rw [hR]; exact hs.arr [0, 9, 10, 1, 2, 5, 6, 7] 11 (by decide)
  have hosu : osU (⟨d, l, c, man0, t1, t2, 10, xs, s3, s4⟩ : UpT) = osb0 := osU_eq (xs := xs) (bs := [bAB]) hxs; refine zA2 (J4 rfl (zA6 (zAp ?_)))
  refine zBs (X := Nat) [0, 9, 10, 11, 57, 58, 59, 60, 61, 62, 63, 64, 65, 66, 67, 68, 69, 70, 71, 72, 73] (fun i => [(9, .int .i64 (i : Nat))]) (fun i w => (1 ≤ i ∧ i ≤ 6) ∧ ∃ ak s a ov V q c' n dk st M, StI osb0 [] ⟨d, l, c, man0, t1, t2, 10, xs, s3, s4⟩ true (UgN 9000 65536 ((mfB man0).length + 17)) [] [(man0.id, ⟨1, man0⟩)] [(man0.id, ⟨2, man0⟩)] s a ov V q c' n dk st M ∧ M + i = 6 ∧ Bnd (100 * i) ak st dk ∧ Mem g w (UpC u ⟨d, l, c, man0, t1, t2, 10, xs, s3, s4⟩ a ov :: zBh c sp ((0 + 1 : Nat) : Int) (ak : Nat) :: zB8 sp st :: zDs l d 3 V q c' n :: zB9 d dk :: R)) (fun i => 6 - i) (1) ?_ ?_ ?_
  · exact ⟨rfl, trivial⟩
  · exact ⟨⟨by omega, by omega⟩, 0, 0, _, false, [], 0, 0, 0, dk2, St.empty, _, StI.start (PIn.empty []) (fun _ => ⟨rfl, rfl⟩) (UgN.zero k4 k1 k2), by rw [hosu]; show restM 10 osb0 + 2 + 1 = 6; decide, ⟨by decide, by decide, by decide, by decide, by simp [Dk.empty] at k3; omega⟩, hs⟩
  clear hs; rintro x ξ w hI; obtain ⟨hi, ak, s, a, ov, V, q, c', n, dk, st, M, hI, hM, hB, hs⟩ := hI; refine zA4 (zA4 (zA2 (J0 rfl (Qa (zE8 rfl rfl) (zA6 (zB2 rfl ?_ ?_))))))
  ·
   intro h58; have g58 := of_decide_eq_true h58; refine zAd (zA4 (zAp (zA4 (zA2 (J1 rfl ?_))))); refine Qg en16 (upStep hE hU (K := []) (fun x hx => by cases hx) hL hI hB (by omega) (tr := 0) (by omega) hs) ?_; clear hs; rintro _ w ⟨is, y, s', a', ov', V', q', c3, n', dk', st', ak', M', rfl, hI', hB', hy, his, hle, hlt, hcl, hs⟩; obtain ⟨rfl, hM'⟩ := hcl rfl; refine Jc rfl (Ju (v := .bool _) rfl rfl (Jg rfl rfl (J5 rfl (J6 rfl (zA6 (zA4 (zA2 ?_)))))))
   refine J8 rfl (Jv (ad := ad) rfl (J2 rfl (zAl rfl rfl (rfl) (J2 rfl (zAl rfl rfl (rfl) (J0 rfl (zAl rfl rfl (rfl) (Jw rfl rfl (zAl rfl rfl (rfl) (Qa (run_neb uz4 rfl rfl) ?_)))))))))); refine J9 rfl (rfl) rfl (zA6 (zAz rfl ((is_at (k := 5) his hI'.zero (by omega))) (zAd (zA2 (J0 rfl (Jo rfl rfl rfl (inI (by omega) (by omega)) ?_))))))
   refine J4 rfl (zA6 ?_); exact ⟨x + 1, by omega, ⟨⟨by omega, by omega⟩, ak', s', a', ov', V', q', c3, n', dk', st', M', hI', by omega, hB', hs⟩, ⟨rfl, trivial⟩, by repeat (first | exact Out.mix _ _ _ | refine Out.updo rfl ?_ | refine Out.upd rfl ?_ | refine Out.mixIn rfl ?_)⟩
  ·
   intro h58; have g58 := of_decide_eq_false h58; obtain rfl : s = 2 := hI.zero.2 (by omega); obtain ⟨rfl, hlg, hp, hobs, _⟩ := hI.done; subst hR; refine zBm rfl (zA4 (zA2 (J1 rfl (Jp (o' := 5) zCp rfl sz37 rfl rfl rfl (Qc zD rfl hs 5 rfl rfl (Qa (zAy zD sz66 rfl rfl (i := 0) rfl (by decide) rfl) (Jp zG2 rfl sz9 rfl rfl rfl (Jq uz9 rfl rfl ((RdK.row (k := 3) (v := .slice (some ⟨b2, o2, none⟩) 2 s2c) (rows := (zC7 0 bAB []).obs.map obL) 7 rfl).cell hs (q := 0) rfl (j := 0) rfl) ?_))))))))
   refine Qg en39 (bytes_sl (hs.arr [2, 0, 1, 3, 4, 5, 6, 7] 8 (by decide)) hp.small (zDu 0 zGd 10) (o := some bAB) (hobs (zDu 0 zGd 10, bAB) (by rw [hosu]; exact List.mem_cons_self ..))) ?_; clear hs; rintro _ w ⟨a81, c81, rfl, hs⟩; obtain ⟨b81, o81, rfl, _⟩ := hs.ownCells 0 rfl (by decide); refine Jc rfl (Ju (v := .slice _ _ _) rfl rfl (Ju (v := .bool _) rfl rfl (Jb rfl (J5 rfl (zA6 (zA4 (zA2 (J2 rfl (J2 rfl (zAl rfl rfl (rfl) ?_))))))))))
   refine J7 rfl (zAl rfl rfl (rfl) (Qa (zCe zC6 uz5 uz9 rfl (l := bAB) rfl (fun j v hj => hs.ownAt 0 rfl hj)) (zAl rfl rfl (rfl) (Qa (run_eqs rfl rfl) (Ja rfl (rfl) rfl (J2 rfl (zAl rfl rfl (rfl) (J1 rfl (zAl rfl rfl (rfl) (Qg en19 (zG5 (hs.arr [4, 0, 1, 2, 3, 5, 6, 7, 8] 9 (by decide))) ?_)))))))))); clear hs; rintro _ w ⟨v92, rfl, hs⟩; refine zAl rfl rfl (rfl) (Qg en20 (zF6 hs 0) ?_); clear hs; rintro _ w ⟨rfl, hs⟩; refine zAl rfl rfl (rfl) ?_
   refine Jw rfl rfl (Ja rfl (rfl) rfl (J5 rfl (zA6 (zAe (zBi (v := .bool _) rfl rfl ?_))))); exact ⟨_, rfl, by rw [show Vw.state [(man0.id, (⟨2, man0⟩ : Itm))] 0 = 2 from rfl]; rfl, hs.suffix 10 rfl⟩
end
section
open Go.RowKit
attribute [local irreducible] zAk eV
variable {g w : World} {L M : List HP} {ad : Nat → Addr} {p u n q c d l id : Nat} {dk : Dk} {st : St} {x y : List UInt8} {s1 s2 s3 s4 : SA} {xs : List (List UInt8 × SA)} {V V0 V1 V2 : Vw} {K osb : List (ByteArray × List UInt8)} {a : S4} {cl : Bool} {t : UpT}
structure TwoOk (id : Nat) : Prop where
  h0 : mfF ⟨id, (10 : Nat), 20, 5, [(1, 10)], [(zDu id zGd 10, 0, 0), (zDu id zEv 10, 0, 0)]⟩ = (0, none)
  ne : zDu id zGd 10 ≠ zDu id zEv 10
  v1 : zBy (zDu id zGd 10).data.toList = true
  v2 : zBy (zDu id zEv 10).data.toList = true
  le : id ≤ 2147483647
theorem two2 : TwoOk 2 := ⟨by decide +kernel, by decide +kernel, by decide +kernel, by decide +kernel, by decide⟩
def zG4 (id : Nat) (x y : List UInt8) : List (ByteArray × List UInt8) := [(zDu id zGd 10, x), (zDu id zEv 10, y)]
theorem TwoOk.mf (h : TwoOk id) (hx : x.length ≤ 256) (hy : y.length ≤ 256) : mfF (zC7 id x y) = (0, none) := mkG_F h.h0 (by omega) (by omega)
theorem TwoOk.osF (h : TwoOk id) (hx : x.length ≤ 256) (hy : y.length ≤ 256) : OsF (zG4 id x y) := by
  refine ⟨fun n b b' h1 h2 => ?_, fun n b h1 => ?_, fun n b h1 => ?_⟩
  · simp only [zG4, List.mem_cons, Prod.mk.injEq, List.not_mem_nil, or_false] at h1 h2
    rcases h1 with ⟨h1, rfl⟩ | ⟨h1, rfl⟩ <;> rcases h2 with ⟨h2, rfl⟩ | ⟨h2, rfl⟩
    · rfl
    · exact absurd (h1.symm.trans h2) h.ne
    · exact absurd (h2.symm.trans h1) h.ne
    · rfl
  · simp only [zG4, List.mem_cons, Prod.mk.injEq, List.not_mem_nil, or_false] at h1
    rcases h1 with ⟨_, rfl⟩ | ⟨_, rfl⟩ <;> assumption
  · simp only [zG4, List.mem_cons, Prod.mk.injEq, List.not_mem_nil, or_false] at h1
    rcases h1 with ⟨rfl, _⟩ | ⟨rfl, _⟩
    · exact h.v1
    · exact h.v2
theorem TwoOk.up (h : TwoOk id) (hx : x.length ≤ 256) (hy : y.length ≤ 256) {each : Int} (he : 1 ≤ each ∧ each ≤ 1000) : (upF each (zC7 id x y) [x, y]).1 = 0 :=
  upF_two he (by rw [h.mf hx hy]) rfl (obG_fine he hx h.v1 rfl rfl) (obG_fine he hy h.v2 rfl rfl)
theorem man21_sum : ∀ o ∈ (zC7 id x y).obs, o.2.2 < 4294967296 := fun o ho => by
  have ho : o ∈ [(zDu id zGd 10, ((x.length : Nat) : Int), zC4 0 x), (zDu id zEv 10, ((y.length : Nat) : Int), zC4 0 y)] := ho; simp only [List.mem_cons, List.not_mem_nil, or_false] at ho
  rcases ho with rfl | rfl
  · exact crcMore_lt (by decide) _
  · exact crcMore_lt (by decide) _
theorem TwoOk.fr (h : TwoOk id) (hx : x.length ≤ 256) (hy : y.length ≤ 256) : (mfB (zC7 id x y)).length + 17 ≤ 6021 := by
  have h1 := frame_le (q := 0) (e := (1, zC7 id x y)) ⟨h.mf hx hy, (show (1 : Int) ≤ 1 by decide), (show (1 : Int) ≤ 4 by decide), man21_sum⟩; rw [zF7] at h1; exact h1
theorem TwoOk.upOk (h : TwoOk id) (hx : x.length ≤ 256) (hy : y.length ≤ 256) {e : Nat} (he : 1 ≤ e ∧ e ≤ 1000) (hxs : xs.map (·.1) = [x, y]) (hO : OsF osb) (hs : ∀ o ∈ zG4 id x y, o ∈ osb) : UpOk osb ⟨d, l, c, zC7 id x y, s1, s2, e, xs, s3, s4⟩ :=
  upOk_mk (each := ((e : Nat) : Int)) (bs := [x, y]) (by omega) hxs rfl (by simp) hO hs ⟨by show (0 : Int) ≤ ((id : Nat) : Int); omega, by have := h.le; show ((id : Nat) : Int) ≤ _; omega⟩
theorem two_osU {e : Nat} (hxs : xs.map (·.1) = [x, y]) : osU ⟨d, l, c, zC7 id x y, s1, s2, e, xs, s3, s4⟩ = zG4 id x y := osU_eq (xs := xs) (bs := [x, y]) hxs
theorem two_all {α : Type} {P : α → Prop} {z1 z2 : α} (h1 : P z1) (h2 : P z2) : ∀ z ∈ [z1, z2], P z := fun z hz => by
  simp only [List.mem_cons, List.not_mem_nil, or_false] at hz
  rcases hz with rfl | rfl
  · exact h1
  · exact h2
theorem RawI.jany {N : List ByteArray} {B : Nat} {f : ByteArray → Option (List UInt8)} {d : Dk} (h : RawI N B f d) (hs : nUp ∈ N) : ∃ (is : Bool) (z : S4), jst (d.pread nUp) = (0, is, z.1, z.2.1, z.2.2.1, z.2.2.2) ∧ 0 ≤ z.2.1 := by
  have hp : (d.pread nUp).1 ≠ 110 := by
    cases hf : f nUp with
    | none => rw [h.pread_none hs hf]; exact fun h => by cases h
    | some v =>
      have h1 := h.lenR hs; rw [hf] at h1; have h1 : d.lenR nUp = (0, v.length) := h1; have h2 := h.readR hs hf
      unfold Dk.pread
      rw [if_neg (by rw [h1]; exact fun h => h rfl), h1, if_neg (by simp only; rw [h2]; exact fun h => h rfl)]
      rcases (openL_code (d.readR nUp 0 ((v.length : Nat) : Int)).2).1 with h | h | h <;> (rw [h]; decide)
  unfold jst
  rw [if_neg hp]
  split
  · split
    · rename_i x y z u _ hc
      exact ⟨true, (x, y, z, u), rfl, (inR_iff.1 (List.all_eq_true.1 hc.2 y (by simp))).1⟩
    · exact ⟨false, s40, rfl, Int.le_refl _⟩
  · exact ⟨false, s40, rfl, Int.le_refl _⟩
theorem StI.left {osb K : List (ByteArray × List UInt8)} {t : UpT} {cl : Bool} {Lg : Nat → Vw → Nat → Nat → Nat → Dk → Prop} {V0 V1 V2 V : Vw} {a : S4} {ov : Bool} {q c n s : Nat} {dk : Dk} {st : St} {M0 : Nat} (hU : UpOk osb t) (h : StI osb K t cl Lg V0 V1 V2 s a ov V q c n dk st M0) : uLeft s st M0 ≤ st.script.length + 702 := by
  have hr := restM_le hU.each.1 hU.small; have h2 := hU.two; rw [osU_len hU] at hr; obtain ⟨_, _, ⟨rfl, _, _, _, _, rfl⟩ | ⟨rfl, _, M1, hob, rfl⟩ | ⟨rfl, _⟩⟩ := h
  · rw [uLeft0, tLeft, Nat.add_sub_cancel]
    split <;> omega
  · have := hob.le hU.each.1 hU.small (by rw [osU_len hU]; exact h2)
    rw [uLeft1, tLeft, Nat.add_sub_cancel]
    split <;> omega
  · rw [uLeft2]; omega
theorem StI.at {Lg : Nat → Vw → Nat → Nat → Nat → Dk → Prop} {s M0 : Nat} {ov : Bool} (hU : UpOk osb t) (h : StI osb K t cl Lg V0 V1 V2 s a ov V q c n dk st M0) (hs : s ≠ 2) : ∃ (k done : Nat) (uid : Int), a = (t.m.id, (k : Int), uid, (done : Int)) ∧ k ≤ t.xs.length ∧ (done = 0 ∨ ∃ o ∈ osU t, done ≤ zBb o.2.length t.each) := by
  obtain ⟨_, _, ⟨rfl, _, rfl, _⟩ | ⟨rfl, _, M1, hob, _⟩ | ⟨rfl, _⟩⟩ := h
  · exact ⟨0, 0, 0, rfl, Nat.zero_le _, .inl rfl⟩
  · rcases hob with ⟨k, o, uid, done, m, ho, rfl, _, hph, _⟩ | ⟨rfl, _⟩
    · have h1 := (List.getElem?_eq_some_iff.1 ho).1
      rw [osU_len hU] at h1; exact ⟨k, done, uid, rfl, by omega, .inr ⟨o, List.mem_of_getElem? ho, hph.le.2.2.1⟩⟩
    · rw [osU_len hU]
      exact ⟨_, 0, 0, rfl, Nat.le_refl _, .inl rfl⟩
  · exact absurd rfl hs
end
section
open Go.RowKit
attribute [local irreducible] zAk eV
variable {g w : World} {L M : List HP} {ad : Nat → Addr} {p d pv ev : Nat} {dk : Dk} {f : ByteArray → Option (List UInt8)} {V U : Vw} {q r c n : Nat} {b mb : List UInt8} {N : List ByteArray} {B : Nat}
set_option maxHeartbeats 2000000 in
set_option maxRecDepth 10000 in
theorem entriesR_sl (hM : ErrM ad g) {V0 : Vw} {q0 : Nat} {mb : List UInt8} (hI : RawI N B f dk) (hmt : mtN ∈ N) (ha : dk.armed = 0) (hcl : dk.calls < 900000) (hf : f mtN = some mb) (hml : mb.length ≤ 1000000) (hent : Ent V0 q0 mb V q c n) (hq : q < 4611686018427387904) (hs : Mem g w (lgP p d ev pv q0 0 0 :: zEn pv V0 :: zB9 d dk :: L)) :
    Calls Tryz.prog 79 #[.pointer (some ⟨p, 0, none⟩), .int .i64 (mb.length : Nat)] w (Ret fun v w' => v = .nilIface ∧ ∃ dk2, dk2.armed = 0 ∧ dk2.room = dk.room ∧ dk2.calls ≤ dk.calls + 2 ∧ RawI N B (zF9 f mtN (mb.take n)) dk2 ∧ Mem g w' (lgP p d ev pv q c n :: zEn pv V :: zB9 d dk2 :: L)) := by
  have hK := hM.toK; have hV := hM.toV; have hle := hent.le; refine zAh Tryz.func79 rfl rfl ?_
  refine zA4 (zA2 (J3 rfl (zA6 (zA4 (zA2 (J1 rfl (Jx rfl (Jp (o' := 0) zCm rfl sz25 rfl rfl rfl (Qc uz25 rfl hs 0 rfl rfl (J0 rfl (Qg en121 (read_sl hK (hs.arr [2, 0, 1] 3 (by decide)) mtN (off := 0) (m := (mb.length : Int)) (inI (by decide) (by decide)) (inI (by omega) (by omega)) (hI.readR hmt hf)) ?_))))))))))); clear hs; rintro _ w ⟨a18, c18, rfl, hs⟩; rw [zB]; refine Jc rfl (Ju (v := .slice _ _ _) rfl rfl ?_)
  refine Jk rfl rfl (Jb rfl (J3 rfl (zA6 (zA4 (zA4 (zA2 (Jj rfl (Jz rfl (zA6 (zAz rfl (rfl) (zAd ?_))))))))))); refine zA4 (zAp ?_)
  refine zBs (X := Vw × Nat × Nat × Nat) [7, 8, 9, 10, 24, 25, 26, 27, 28, 29, 30, 31, 32, 33, 34, 35, 36, 37, 38, 39, 40, 41, 42, 43, 44, 45, 46, 47, 48, 49, 50, 51, 52, 53, 54, 55, 56, 57, 58, 59, 60, 61, 62, 63, 64, 65, 66, 67, 68, 69, 70, 71, 72, 73, 74, 75, 76, 77, 78, 79, 80, 81, 82, 83, 84, 85, 86, 87, 88, 89] (fun x => []) (fun x w => (x.2.2.2 ≤ mb.length ∧ ∃ c' n', Ent x.1 x.2.1 (mb.drop x.2.2.2) V q c' n' ∧ x.2.2.1 + c' = c ∧ x.2.2.2 + n' = n) ∧ Mem g w (lgP p d ev pv x.2.1 x.2.2.1 x.2.2.2 :: own (.slice a18 mb.length c18) (zAn mb) :: zB9 d dk :: zEn pv x.1 :: L)) (fun x => mb.length - x.2.2.2) ((V0, q0, 0, 0)) ?_ ?_ ?_
  · exact trivial
  · exact ⟨⟨Nat.zero_le _, c, n, hent, Nat.zero_add _, Nat.zero_add _⟩, hs.arr [2, 0, 1, 3] 4 (by decide)⟩
  clear hs; rintro x ξ w hI; obtain ⟨W, qc, cc, pos⟩ := x; obtain ⟨⟨hpl, c', n', hE, hce, hne⟩, hs⟩ := hI; simp only at hpl hE hce hne hs; have hEl := hE.le; refine zA4 (zA4 (zA2 (J1 rfl (Jx rfl (Jp (o' := 5) zCm rfl sz3 rfl rfl rfl (Qc uz3 rfl hs 0 rfl rfl (J0 rfl (Jn rfl rfl (zA6 (zB2 rfl ?_ ?_))))))))))
  ·
   intro h29; have g29 := of_decide_eq_true h29
   have hbn : mb.drop pos ≠ [] := fun e => by have := List.drop_eq_nil_iff.1 e; omega
   have hcap := (hs.ownForm 1 rfl).2.1; refine zAd (zAp (zA4 ?_))
   obtain ⟨hr, rfl, rfl, rfl, rfl⟩ | ⟨s, z, k, x, hr, hbs, rfl, rfl, rfl, rfl⟩ | ⟨z, k, x, hr, hba, rfl, rfl, rfl, rfl⟩ | ⟨z, k, x, c2, n2, hr, hap, hE2, rfl, rfl⟩ := hE.inv hbn
   ·
    refine zA2 (J7 rfl (J1 rfl (Jx rfl (Jp (o' := 5) zCm rfl sz3 rfl rfl rfl (Qc uz3 rfl hs 0 rfl rfl (Qa (zD1 zC6 sz5 rfl rfl (lo := pos) rfl (by omega)) (Qg en122 (hr.calls hM.toP hM.toW hV hs (by have h9 := (hs.rdOwn 1 rfl).subB (lo := pos) (hi := mb.length) (by omega) (Nat.le_refl _); rw [List.take_length] at h9; exact h9) (by simp) (by omega)) ?_))))))); clear hs; rintro _ w ⟨fe, eb, hfp, hf0, rfl, hs⟩; refine Jc rfl (Ju (v := .int .i64 _) rfl rfl ?_)
    refine Ju (v := .agg _) rfl rfl (Ju (v := .int .i64 _) rfl rfl (Ju (v := flV ad _ _) rfl rfl (zBj hs rfl ze121 ?_))); clear hs; intro b8 w hs
    try simp only [zzs, zzz] at hs
    refine J4 rfl (zAr hs 0 rfl rfl rfl sz121 rfl rfl ?_); clear hs; intro w hs
    try simp only [zzs, zzz] at hs
    refine J4 rfl (Jl (v := flV ad _ _) rfl (zA6 (zA4 (zA4 (zAq zBk (hs.drop 5) ?_))))); intro w tr hK; replace hs := tr _ hs; clear tr; refine Q4 0 rfl (v := flV ad _ _) rfl hK (Qb 1 rfl (fun w hs => run_neF hfp rfl) hK (Q4 2 rfl (v := .bool _) rfl hK (zAf 3 rfl rfl rfl rfl ((by simp [hf0])) hK (zAf 4 rfl rfl rfl rfl ((by simp [hf0])) hK (zAf 5 rfl rfl rfl rfl ((by simp [hf0])) hK (zAf 6 rfl rfl rfl rfl ((by simp [hf0])) hK (zAf 7 rfl rfl rfl rfl ((by simp [hf0])) hK ?_)))))))
    refine Qb 8 rfl (fun w hs => zAj (v := .bool _) rfl ((by simp [hf0])) rfl) hK (Q4 9 rfl (v := .bool _) rfl hK (zAf 10 rfl rfl rfl rfl rfl hK (zAf 11 rfl rfl rfl rfl rfl hK (zAf 12 rfl rfl rfl rfl rfl hK (zAf 13 rfl rfl rfl rfl rfl hK (zAf 14 rfl rfl rfl rfl rfl hK (zAf 15 rfl rfl rfl rfl rfl hK (zAf 16 rfl rfl rfl rfl rfl hK (Qb 17 rfl (fun w hs => zAj (v := .bool _) rfl rfl rfl) hK (Q4 18 rfl (v := .bool _) rfl hK ?_)))))))))); refine zAf 19 rfl rfl rfl rfl rfl hK (zAf 20 rfl rfl rfl rfl rfl hK ?_)
    refine zAf 21 rfl rfl rfl rfl rfl hK (zAf 22 rfl rfl rfl rfl rfl hK (zAf 23 rfl rfl rfl rfl rfl hK (zAf 24 rfl rfl rfl rfl rfl hK (zAf 25 rfl rfl rfl rfl rfl hK (Qb 26 rfl (fun w hs => zAj (v := .bool _) rfl rfl rfl) hK (zAs (by kernel_rfl) ?_)))))); clear hK; refine zBc rfl rfl (zBm rfl (zA4 (zA4 ?_)))
    have e5 : c = cc := by omega
    subst e5
    have e6 : n = pos := by omega
    subst e6; have h9 : Mem g w (lgP p d ev pv q c n :: own (.slice a18 mb.length c18) (zAn mb) :: zB9 d dk :: zEn pv V :: L) := hs.tail.tail; replace hs := h9; clear h9; refine zA2 (J1 rfl (Jx rfl (Jp (o' := 5) zCm rfl sz3 rfl rfl rfl (Qc uz3 rfl hs 0 rfl rfl (J0 rfl (Jw rfl rfl (zA6 (zB2 rfl ?_ ?_))))))))
    ·
     intro h95; have g95 := of_decide_eq_true h95; refine zA4 (zA2 (J3 rfl (zA6 (zAe (zBi (v := .nilIface) rfl rfl ?_))))); exact ⟨_, rfl, rfl, dk, ha, rfl, by omega, by rw [List.take_of_length_le (by omega), updF_self hf]; exact hI, hs.arr [0, 3, 2] 4 (by decide)⟩
    ·
     intro h95; have g95 := of_decide_eq_false h95; obtain ⟨kc, dc, hcut, hcr, hcc, hccase⟩ := hI.cut hmt hf (m := n) (by omega); obtain ⟨rfl, hup2, har2, hI4⟩ := hccase.resolve_right (fun h => h.2.2.1 ha); refine zAd (zA4 (zA4 (zAq zBk (hs.drop 2) ?_))); intro w tr hK; replace hs := tr _ hs; clear tr; refine Q0 0 rfl rfl hK (Q7 1 rfl rfl hK (Q6 2 rfl (o' := 0) zCm rfl sz25 rfl rfl rfl hK (Qd 3 rfl uz25 rfl (fun w hs => hs.cellAt 0 rfl rfl) hK (Q0 4 rfl rfl hK ?_))))
     refine Q7 5 rfl rfl hK (Q6 6 rfl (o' := 5) zCm rfl sz3 rfl rfl rfl hK (Qd 7 rfl uz3 rfl (fun w hs => hs.cellAt 0 rfl rfl) hK (zAc [8] ⟨⟨_, rfl, ?_⟩, trivial⟩))); refine Qg en97 (cut_sl hM.toK (hs.arr [2, 0, 1, 3] 4 (by decide)) (by omega) mtN (m := ((n : Nat) : Int)) (inI (by omega) (by omega)) hcut) ?_; clear hs; rintro _ w ⟨rfl, hs⟩; clear hK; have hK := hs.tail; refine zA6 ⟨hK, ?_⟩; refine Q1 9 rfl rfl hK (zAs (by kernel_rfl) ?_); clear hK; refine zA4 (zA2 (J8 rfl ?_))
     refine Jv (ad := ad) rfl (zA6 (zAz rfl (rfl) (zAd (zA4 ?_)))); have hI5 := hI4 (hs.openD).1; obtain ⟨ds, hsy, hsr, hsa, hsc, hI6⟩ := hI5.sync (har2 ha) hmt (zD4 _ _ _); refine zA2 (J1 rfl (Jx rfl (Jp (o' := 0) zCm rfl sz25 rfl rfl rfl (Qc uz25 rfl hs 1 rfl rfl (Qg en96 (sync_sl hM.toK hs (by omega) mtN hsy) ?_))))); clear hs; rintro _ w ⟨rfl, hs⟩; refine J6 rfl (zA6 (zAe (zBi (v := zAk ad _) rfl rfl ?_)))
     exact ⟨_, rfl, zB ad, ds, hsa, hsr.trans hcr, by omega, hI6 (hs.openD).1, hs.arr [1, 3, 0] 4 (by decide)⟩
   ·
    refine zA2 (J7 rfl (J1 rfl (Jx rfl (Jp (o' := 5) zCm rfl sz3 rfl rfl rfl (Qc uz3 rfl hs 0 rfl rfl (Qa (zD1 zC6 sz5 rfl rfl (lo := pos) rfl (by omega)) (Qg en122 (hr.calls hM.toP hM.toW hV hs (by have h9 := (hs.rdOwn 1 rfl).subB (lo := pos) (hi := mb.length) (by omega) (Nat.le_refl _); rw [List.take_length] at h9; exact h9) (by simp) (by omega)) ?_))))))); clear hs; rintro _ w ⟨s1, s2, rfl, hs⟩; simp only [mfP, List.cons_append, List.nil_append] at hs; refine Jc rfl ?_
    refine Ju (v := .int .i64 _) rfl rfl (Ju (v := .agg _) rfl rfl (Ju (v := .int .i64 _) rfl rfl (Jk rfl rfl (zBj hs rfl ze121 ?_)))); clear hs; intro b8 w hs
    try simp only [zzs, zzz] at hs
    refine J4 rfl (zAr hs 0 rfl rfl rfl sz121 rfl rfl ?_); clear hs; intro w hs
    try simp only [zzs, zzz] at hs
    refine J4 rfl (J3 rfl (zA6 (zA4 (zA4 (zAq zBk (hs.drop 6) ?_))))); intro w tr hK; replace hs := tr _ hs; clear tr; refine Q4 0 rfl (v := .nilIface) rfl hK (Qb 1 rfl (fun w hs => zBu rfl) hK (Q4 2 rfl (v := .bool _) rfl hK (zAi 3 rfl rfl rfl rfl (rfl) (fun w hs => zA1 (v := .pointer (some _)) rfl) hK (zAi 4 rfl rfl rfl rfl (rfl) (fun w hs => zA8 rfl) hK (zAi 5 rfl rfl rfl rfl (rfl) (fun w hs => zA5 (o' := 3) zCm rfl sz2 rfl rfl rfl) hK ?_)))))
    refine zAi 6 rfl rfl rfl rfl (rfl) (fun w hs => zA7 uz2 rfl rfl (hs.cellAt 3 rfl rfl)) hK (zAi 7 rfl rfl rfl rfl (rfl) (fun w hs => zBq rfl rfl) hK (Qb 8 rfl (fun w hs => zAg (v := .bool _) rfl (rfl) rfl) hK (Q4 9 rfl (v := .bool _) rfl hK (zAi 10 rfl rfl rfl rfl (decide_eq_false (by omega)) (fun w hs => zA1 (v := .int .i64 _) rfl) hK (zAi 11 rfl rfl rfl rfl (decide_eq_false (by omega)) (fun w hs => zA1 (v := .pointer (some _)) rfl) hK (zAi 12 rfl rfl rfl rfl (decide_eq_false (by omega)) (fun w hs => zA8 rfl) hK ?_))))))
    refine zAi 13 rfl rfl rfl rfl (decide_eq_false (by omega)) (fun w hs => zA5 (o' := 3) zCm rfl sz2 rfl rfl rfl) hK (zAi 14 rfl rfl rfl rfl (decide_eq_false (by omega)) (fun w hs => zA7 uz2 rfl rfl (hs.cellAt 3 rfl rfl)) hK (zAi 15 rfl rfl rfl rfl (decide_eq_false (by omega)) (fun w hs => zAo rfl rfl (c := ((q + 1 : Nat) : Int)) (by omega) (inI (by omega) (by omega))) hK (zAi 16 rfl rfl rfl rfl (decide_eq_false (by omega)) (fun w hs => zDy rfl rfl) hK (Qb 17 rfl (fun w hs => zAg (v := .bool _) rfl (decide_eq_false (by omega)) rfl) hK (Q4 18 rfl (v := .bool _) rfl hK ?_)))))
    refine zAf 19 rfl rfl rfl rfl ((by first | (rw [decide_eq_false (show ¬ ((s : Nat) : Int) = ((q + 1 : Nat) : Int) by omega)]; rfl) | rw [decide_eq_false (show ¬ ((s : Nat) : Int) = ((q + 1 : Nat) : Int) by omega)])) hK ?_; refine zAf 20 rfl rfl rfl rfl ((by first | (rw [decide_eq_false (show ¬ ((s : Nat) : Int) = ((q + 1 : Nat) : Int) by omega)]; rfl) | rw [decide_eq_false (show ¬ ((s : Nat) : Int) = ((q + 1 : Nat) : Int) by omega)])) hK ?_; refine zAf 21 rfl rfl rfl rfl ((by first | (rw [decide_eq_false (show ¬ ((s : Nat) : Int) = ((q + 1 : Nat) : Int) by omega)]; rfl) | rw [decide_eq_false (show ¬ ((s : Nat) : Int) = ((q + 1 : Nat) : Int) by omega)])) hK ?_
    refine zAf 22 rfl rfl rfl rfl ((by first | (rw [decide_eq_false (show ¬ ((s : Nat) : Int) = ((q + 1 : Nat) : Int) by omega)]; rfl) | rw [decide_eq_false (show ¬ ((s : Nat) : Int) = ((q + 1 : Nat) : Int) by omega)])) hK ?_; refine zAf 23 rfl rfl rfl rfl ((by first | (rw [decide_eq_false (show ¬ ((s : Nat) : Int) = ((q + 1 : Nat) : Int) by omega)]; rfl) | rw [decide_eq_false (show ¬ ((s : Nat) : Int) = ((q + 1 : Nat) : Int) by omega)])) hK ?_; refine zAf 24 rfl rfl rfl rfl ((by first | (rw [decide_eq_false (show ¬ ((s : Nat) : Int) = ((q + 1 : Nat) : Int) by omega)]; rfl) | rw [decide_eq_false (show ¬ ((s : Nat) : Int) = ((q + 1 : Nat) : Int) by omega)])) hK ?_
    refine zAf 25 rfl rfl rfl rfl ((by first | (rw [decide_eq_false (show ¬ ((s : Nat) : Int) = ((q + 1 : Nat) : Int) by omega)]; rfl) | rw [decide_eq_false (show ¬ ((s : Nat) : Int) = ((q + 1 : Nat) : Int) by omega)])) hK ?_
    first | refine Qb 26 rfl (fun w hs => zAj (v := .bool _) rfl ((by first | (rw [decide_eq_false (show ¬ ((s : Nat) : Int) = ((q + 1 : Nat) : Int) by omega)]; rfl) | rw [decide_eq_false (show ¬ ((s : Nat) : Int) = ((q + 1 : Nat) : Int) by omega)])) rfl) hK ?_
    refine zAs (by kernel_rfl) ?_; clear hK; refine zBc rfl rfl (zBm rfl (zA4 (zA4 ?_)))
    have e5 : c = cc := by omega
    subst e5
    have e6 : n = pos := by omega
    subst e6; have h9 : Mem g w (lgP p d ev pv q c n :: own (.slice a18 mb.length c18) (zAn mb) :: zB9 d dk :: zEn pv V :: L) := hs.tail.tail.tail; replace hs := h9; clear h9; refine zA2 (J1 rfl (Jx rfl (Jp (o' := 5) zCm rfl sz3 rfl rfl rfl (Qc uz3 rfl hs 0 rfl rfl (J0 rfl (Jw rfl rfl (zA6 (zB2 rfl ?_ ?_))))))))
    ·
     intro h95; have g95 := of_decide_eq_true h95; refine zA4 (zA2 (J3 rfl (zA6 (zAe (zBi (v := .nilIface) rfl rfl ?_))))); exact ⟨_, rfl, rfl, dk, ha, rfl, by omega, by rw [List.take_of_length_le (by omega), updF_self hf]; exact hI, hs.arr [0, 3, 2] 4 (by decide)⟩
    ·
     intro h95; have g95 := of_decide_eq_false h95; obtain ⟨kc, dc, hcut, hcr, hcc, hccase⟩ := hI.cut hmt hf (m := n) (by omega); obtain ⟨rfl, hup2, har2, hI4⟩ := hccase.resolve_right (fun h => h.2.2.1 ha); refine zAd (zA4 (zA4 (zAq zBk (hs.drop 2) ?_))); intro w tr hK; replace hs := tr _ hs; clear tr; refine Q0 0 rfl rfl hK (Q7 1 rfl rfl hK (Q6 2 rfl (o' := 0) zCm rfl sz25 rfl rfl rfl hK (Qd 3 rfl uz25 rfl (fun w hs => hs.cellAt 0 rfl rfl) hK (Q0 4 rfl rfl hK ?_))))
     refine Q7 5 rfl rfl hK (Q6 6 rfl (o' := 5) zCm rfl sz3 rfl rfl rfl hK (Qd 7 rfl uz3 rfl (fun w hs => hs.cellAt 0 rfl rfl) hK (zAc [8] ⟨⟨_, rfl, ?_⟩, trivial⟩))); refine Qg en97 (cut_sl hM.toK (hs.arr [2, 0, 1, 3] 4 (by decide)) (by omega) mtN (m := ((n : Nat) : Int)) (inI (by omega) (by omega)) hcut) ?_; clear hs; rintro _ w ⟨rfl, hs⟩; clear hK; have hK := hs.tail; refine zA6 ⟨hK, ?_⟩; refine Q1 9 rfl rfl hK (zAs (by kernel_rfl) ?_); clear hK; refine zA4 (zA2 (J8 rfl ?_))
     refine Jv (ad := ad) rfl (zA6 (zAz rfl (rfl) (zAd (zA4 ?_)))); have hI5 := hI4 (hs.openD).1; obtain ⟨ds, hsy, hsr, hsa, hsc, hI6⟩ := hI5.sync (har2 ha) hmt (zD4 _ _ _); refine zA2 (J1 rfl (Jx rfl (Jp (o' := 0) zCm rfl sz25 rfl rfl rfl (Qc uz25 rfl hs 1 rfl rfl (Qg en96 (sync_sl hM.toK hs (by omega) mtN hsy) ?_))))); clear hs; rintro _ w ⟨rfl, hs⟩; refine J6 rfl (zA6 (zAe (zBi (v := zAk ad _) rfl rfl ?_)))
     exact ⟨_, rfl, zB ad, ds, hsa, hsr.trans hcr, by omega, hI6 (hs.openD).1, hs.arr [1, 3, 0] 4 (by decide)⟩
   ·
    refine zA2 (J7 rfl (J1 rfl (Jx rfl (Jp (o' := 5) zCm rfl sz3 rfl rfl rfl (Qc uz3 rfl hs 0 rfl rfl (Qa (zD1 zC6 sz5 rfl rfl (lo := pos) rfl (by omega)) (Qg en122 (hr.calls hM.toP hM.toW hV hs (by have h9 := (hs.rdOwn 1 rfl).subB (lo := pos) (hi := mb.length) (by omega) (Nat.le_refl _); rw [List.take_length] at h9; exact h9) (by simp) (by omega)) ?_))))))); clear hs; rintro _ w ⟨s1, s2, rfl, hs⟩; simp only [mfP, List.cons_append, List.nil_append] at hs; refine Jc rfl ?_
    refine Ju (v := .int .i64 _) rfl rfl (Ju (v := .agg _) rfl rfl (Ju (v := .int .i64 _) rfl rfl (Jk rfl rfl (zBj hs rfl ze121 ?_)))); clear hs; intro b8 w hs
    try simp only [zzs, zzz] at hs
    refine J4 rfl (zAr hs 0 rfl rfl rfl sz121 rfl rfl ?_); clear hs; intro w hs
    try simp only [zzs, zzz] at hs
    refine J4 rfl (J3 rfl (zA6 (zA4 (zA4 (zAq zBk (hs.drop 6) ?_))))); intro w tr hK; replace hs := tr _ hs; clear tr; refine Q4 0 rfl (v := .nilIface) rfl hK (Qb 1 rfl (fun w hs => zBu rfl) hK (Q4 2 rfl (v := .bool _) rfl hK (zAi 3 rfl rfl rfl rfl (rfl) (fun w hs => zA1 (v := .pointer (some _)) rfl) hK (zAi 4 rfl rfl rfl rfl (rfl) (fun w hs => zA8 rfl) hK (zAi 5 rfl rfl rfl rfl (rfl) (fun w hs => zA5 (o' := 3) zCm rfl sz2 rfl rfl rfl) hK ?_)))))
    refine zAi 6 rfl rfl rfl rfl (rfl) (fun w hs => zA7 uz2 rfl rfl (hs.cellAt 3 rfl rfl)) hK (zAi 7 rfl rfl rfl rfl (rfl) (fun w hs => zBq rfl rfl) hK (Qb 8 rfl (fun w hs => zAg (v := .bool _) rfl (rfl) rfl) hK (Q4 9 rfl (v := .bool _) rfl hK (zAi 10 rfl rfl rfl rfl (decide_eq_false (by omega)) (fun w hs => zA1 (v := .int .i64 _) rfl) hK (zAi 11 rfl rfl rfl rfl (decide_eq_false (by omega)) (fun w hs => zA1 (v := .pointer (some _)) rfl) hK (zAi 12 rfl rfl rfl rfl (decide_eq_false (by omega)) (fun w hs => zA8 rfl) hK ?_))))))
    refine zAi 13 rfl rfl rfl rfl (decide_eq_false (by omega)) (fun w hs => zA5 (o' := 3) zCm rfl sz2 rfl rfl rfl) hK (zAi 14 rfl rfl rfl rfl (decide_eq_false (by omega)) (fun w hs => zA7 uz2 rfl rfl (hs.cellAt 3 rfl rfl)) hK (zAi 15 rfl rfl rfl rfl (decide_eq_false (by omega)) (fun w hs => zAo rfl rfl (c := ((q + 1 : Nat) : Int)) (by omega) (inI (by omega) (by omega))) hK (zAi 16 rfl rfl rfl rfl (decide_eq_false (by omega)) (fun w hs => zDy rfl rfl) hK (Qb 17 rfl (fun w hs => zAg (v := .bool _) rfl (decide_eq_false (by omega)) rfl) hK (Q4 18 rfl (v := .bool _) rfl hK ?_)))))
    refine zAi 19 rfl rfl rfl rfl ((by rw [decide_eq_true rfl]; rfl)) (fun w hs => zA1 (v := .pointer (some _)) rfl) hK ?_; refine zAi 20 rfl rfl rfl rfl ((by rw [decide_eq_true rfl]; rfl)) (fun w hs => zA8 rfl) hK ?_; refine zAi 21 rfl rfl rfl rfl ((by rw [decide_eq_true rfl]; rfl)) (fun w hs => zA5 (o' := 2) zCm rfl sz54 rfl rfl rfl) hK ?_; refine zAi 22 rfl rfl rfl rfl ((by rw [decide_eq_true rfl]; rfl)) (fun w hs => zA7 uz54 rfl rfl (hs.cellAt 3 rfl rfl)) hK ?_; refine zAi 23 rfl rfl rfl rfl ((by rw [decide_eq_true rfl]; rfl)) (fun w hs => zBd hs 0 rfl zE1 sz121 rfl) hK ?_; refine zAc [24] ⟨⟨_, rfl, ?_⟩, trivial⟩; refine zAl rfl rfl ((by rw [decide_eq_true rfl]; rfl)) ?_
    refine Qg en93 (applyq_sl hV (hs.arr [6, 0, 1, 2, 3, 4, 5] 7 (by decide)) k (x := x) (e := s1) (o := s2) (MfR.own 1 2 rfl rfl) (by have := mf_len (x := x) (by rw [(hr.fine _ _ _ rfl).1.1]); omega)) ?_; clear hs; rintro _ w ⟨eb, rfl, hs⟩; clear hK; have hK := hs.tail.tail; refine zA6 ⟨hK, ?_⟩; refine @aw_takeOn _ _ _ _ _ _ _ _ _ _ _ _ _ _ 25 _ _ _ _ _ rfl (by kernel_rfl) (by kernel_rfl) (by kernel_rfl) rfl rfl rfl (by simp) (fun w hs => run_neF (.inr hba) rfl) hK (Qb 26 rfl (fun w hs => zAg (v := .bool _) rfl ((by rw [decide_eq_true rfl]; rfl)) rfl) hK ?_); refine zAs (by kernel_rfl) ?_; clear hK; refine zBc rfl ((by simp [hba])) (zBm rfl (zA4 ?_))
    refine zA4 ?_
    have e5 : c = cc := by omega
    subst e5
    have e6 : n = pos := by omega
    subst e6; rw [Vw.apply_ne hba] at hs; have h9 : Mem g w (lgP p d ev pv q c n :: own (.slice a18 mb.length c18) (zAn mb) :: zB9 d dk :: zEn pv V :: L) := hs.arr [5, 6, 7, 1] 8 (by decide); replace hs := h9; clear h9; refine zA2 (J1 rfl (Jx rfl (Jp (o' := 5) zCm rfl sz3 rfl rfl rfl (Qc uz3 rfl hs 0 rfl rfl (J0 rfl (Jw rfl rfl (zA6 (zB2 rfl ?_ ?_))))))))
    ·
     intro h95; have g95 := of_decide_eq_true h95; refine zA4 (zA2 (J3 rfl (zA6 (zAe (zBi (v := .nilIface) rfl rfl ?_))))); exact ⟨_, rfl, rfl, dk, ha, rfl, by omega, by rw [List.take_of_length_le (by omega), updF_self hf]; exact hI, hs.arr [0, 3, 2] 4 (by decide)⟩
    ·
     intro h95; have g95 := of_decide_eq_false h95; obtain ⟨kc, dc, hcut, hcr, hcc, hccase⟩ := hI.cut hmt hf (m := n) (by omega); obtain ⟨rfl, hup2, har2, hI4⟩ := hccase.resolve_right (fun h => h.2.2.1 ha); refine zAd (zA4 (zA4 (zAq zBk (hs.drop 2) ?_))); intro w tr hK; replace hs := tr _ hs; clear tr; refine Q0 0 rfl rfl hK (Q7 1 rfl rfl hK (Q6 2 rfl (o' := 0) zCm rfl sz25 rfl rfl rfl hK (Qd 3 rfl uz25 rfl (fun w hs => hs.cellAt 0 rfl rfl) hK (Q0 4 rfl rfl hK ?_))))
     refine Q7 5 rfl rfl hK (Q6 6 rfl (o' := 5) zCm rfl sz3 rfl rfl rfl hK (Qd 7 rfl uz3 rfl (fun w hs => hs.cellAt 0 rfl rfl) hK (zAc [8] ⟨⟨_, rfl, ?_⟩, trivial⟩))); refine Qg en97 (cut_sl hM.toK (hs.arr [2, 0, 1, 3] 4 (by decide)) (by omega) mtN (m := ((n : Nat) : Int)) (inI (by omega) (by omega)) hcut) ?_; clear hs; rintro _ w ⟨rfl, hs⟩; clear hK; have hK := hs.tail; refine zA6 ⟨hK, ?_⟩; refine Q1 9 rfl rfl hK (zAs (by kernel_rfl) ?_); clear hK; refine zA4 (zA2 (J8 rfl ?_))
     refine Jv (ad := ad) rfl (zA6 (zAz rfl (rfl) (zAd (zA4 ?_)))); have hI5 := hI4 (hs.openD).1; obtain ⟨ds, hsy, hsr, hsa, hsc, hI6⟩ := hI5.sync (har2 ha) hmt (zD4 _ _ _); refine zA2 (J1 rfl (Jx rfl (Jp (o' := 0) zCm rfl sz25 rfl rfl rfl (Qc uz25 rfl hs 1 rfl rfl (Qg en96 (sync_sl hM.toK hs (by omega) mtN hsy) ?_))))); clear hs; rintro _ w ⟨rfl, hs⟩; refine J6 rfl (zA6 (zAe (zBi (v := zAk ad _) rfl rfl ?_)))
     exact ⟨_, rfl, zB ad, ds, hsa, hsr.trans hcr, by omega, hI6 (hs.openD).1, hs.arr [1, 3, 0] 4 (by decide)⟩
   refine zA2 (J7 rfl (J1 rfl (Jx rfl (Jp (o' := 5) zCm rfl sz3 rfl rfl rfl (Qc uz3 rfl hs 0 rfl rfl (Qa (zD1 zC6 sz5 rfl rfl (lo := pos) rfl (by omega)) (Qg en122 (hr.calls hM.toP hM.toW hV hs (by have h9 := (hs.rdOwn 1 rfl).subB (lo := pos) (hi := mb.length) (by omega) (Nat.le_refl _); rw [List.take_length] at h9; exact h9) (by simp) (by omega)) ?_))))))); clear hs; rintro _ w ⟨s1, s2, rfl, hs⟩; simp only [mfP, List.cons_append, List.nil_append] at hs; refine Jc rfl ?_
   refine Ju (v := .int .i64 _) rfl rfl (Ju (v := .agg _) rfl rfl (Ju (v := .int .i64 _) rfl rfl (Jk rfl rfl (zBj hs rfl ze121 ?_)))); clear hs; intro b8 w hs
   try simp only [zzs, zzz] at hs
   refine J4 rfl (zAr hs 0 rfl rfl rfl sz121 rfl rfl ?_); clear hs; intro w hs
   try simp only [zzs, zzz] at hs
   refine J4 rfl (J3 rfl (zA6 (zA4 (zA4 (zAq zBk (hs.drop 6) ?_))))); intro w tr hK; replace hs := tr _ hs; clear tr; refine Q4 0 rfl (v := .nilIface) rfl hK (Qb 1 rfl (fun w hs => zBu rfl) hK (Q4 2 rfl (v := .bool _) rfl hK (zAi 3 rfl rfl rfl rfl (rfl) (fun w hs => zA1 (v := .pointer (some _)) rfl) hK (zAi 4 rfl rfl rfl rfl (rfl) (fun w hs => zA8 rfl) hK (zAi 5 rfl rfl rfl rfl (rfl) (fun w hs => zA5 (o' := 3) zCm rfl sz2 rfl rfl rfl) hK ?_)))))
   refine zAi 6 rfl rfl rfl rfl (rfl) (fun w hs => zA7 uz2 rfl rfl (hs.cellAt 3 rfl rfl)) hK (zAi 7 rfl rfl rfl rfl (rfl) (fun w hs => zBq rfl rfl) hK (Qb 8 rfl (fun w hs => zAg (v := .bool _) rfl (rfl) rfl) hK (Q4 9 rfl (v := .bool _) rfl hK (zAi 10 rfl rfl rfl rfl (decide_eq_false (by omega)) (fun w hs => zA1 (v := .int .i64 _) rfl) hK (zAi 11 rfl rfl rfl rfl (decide_eq_false (by omega)) (fun w hs => zA1 (v := .pointer (some _)) rfl) hK (zAi 12 rfl rfl rfl rfl (decide_eq_false (by omega)) (fun w hs => zA8 rfl) hK ?_))))))
   refine zAi 13 rfl rfl rfl rfl (decide_eq_false (by omega)) (fun w hs => zA5 (o' := 3) zCm rfl sz2 rfl rfl rfl) hK (zAi 14 rfl rfl rfl rfl (decide_eq_false (by omega)) (fun w hs => zA7 uz2 rfl rfl (hs.cellAt 3 rfl rfl)) hK (zAi 15 rfl rfl rfl rfl (decide_eq_false (by omega)) (fun w hs => zAo rfl rfl (c := ((qc + 1 : Nat) : Int)) (by omega) (inI (by omega) (by omega))) hK (zAi 16 rfl rfl rfl rfl (decide_eq_false (by omega)) (fun w hs => zDy rfl rfl) hK (Qb 17 rfl (fun w hs => zAg (v := .bool _) rfl (decide_eq_false (by omega)) rfl) hK (Q4 18 rfl (v := .bool _) rfl hK ?_)))))
   refine zAi 19 rfl rfl rfl rfl ((by rw [decide_eq_true rfl]; rfl)) (fun w hs => zA1 (v := .pointer (some _)) rfl) hK ?_; refine zAi 20 rfl rfl rfl rfl ((by rw [decide_eq_true rfl]; rfl)) (fun w hs => zA8 rfl) hK ?_; refine zAi 21 rfl rfl rfl rfl ((by rw [decide_eq_true rfl]; rfl)) (fun w hs => zA5 (o' := 2) zCm rfl sz54 rfl rfl rfl) hK ?_; refine zAi 22 rfl rfl rfl rfl ((by rw [decide_eq_true rfl]; rfl)) (fun w hs => zA7 uz54 rfl rfl (hs.cellAt 3 rfl rfl)) hK ?_; refine zAi 23 rfl rfl rfl rfl ((by rw [decide_eq_true rfl]; rfl)) (fun w hs => zBd hs 0 rfl zE1 sz121 rfl) hK ?_; refine zAc [24] ⟨⟨_, rfl, ?_⟩, trivial⟩; refine zAl rfl rfl ((by rw [decide_eq_true rfl]; rfl)) ?_
   refine Qg en93 (applyq_sl hV (hs.arr [6, 0, 1, 2, 3, 4, 5] 7 (by decide)) k (x := x) (e := s1) (o := s2) (MfR.own 1 2 rfl rfl) (by have := mf_len (x := x) (by rw [(hr.fine _ _ _ rfl).1.1]); omega)) ?_; clear hs; rintro _ w ⟨eb, rfl, hs⟩; rw [hap] at hs ⊢; replace hs := hs.tail; clear hK; have hK := hs.tail; refine zA6 ⟨hK, ?_⟩; refine zAi 25 rfl rfl rfl rfl ((by rw [decide_eq_true rfl]; rfl)) (fun w hs => zAv (ad := ad) rfl) hK ?_; refine Qb 26 rfl (fun w hs => zAg (v := .bool _) rfl ((by rw [decide_eq_true rfl]; rfl)) rfl) hK ?_; refine zAs (by kernel_rfl) ?_; clear hK; refine zAz rfl (rfl) (zAd (zAq zBk (hs.drop 4) ?_)); intro w tr hK; replace hs := tr _ hs
   clear tr; refine Q0 0 rfl rfl hK (Q0 1 rfl rfl hK (Q0 2 rfl rfl hK (Q2 3 rfl rfl hK (Q0 4 rfl rfl hK (Q7 5 rfl rfl hK (Q6 6 rfl (o' := 4) zCm rfl sz3 rfl rfl rfl hK (Q0 9 rfl rfl hK (Q7 10 rfl rfl hK ?_))))))))
   refine Q6 11 rfl (o' := 5) zCm rfl sz3 rfl rfl rfl hK (Q2 13 rfl rfl hK (zAc [7, 12] ⟨⟨_, rfl, ?_⟩, ⟨_, rfl, ?_⟩, trivial⟩)); refine Qc uz3 rfl hs 4 rfl rfl ?_; clear hK; have hK := hs.drop 4; refine zA6 ⟨hK, ?_⟩; refine Qb 8 rfl (fun w hs => zAo rfl rfl (c := ((cc + 1 : Nat) : Int)) (by omega) (inI (by omega) (by omega))) hK (zAc [12] ⟨⟨_, rfl, ?_⟩, trivial⟩); refine Qc uz3 rfl hs 4 rfl rfl ?_; clear hK; have hK := hs.drop 4; refine zA6 ⟨hK, ?_⟩
   refine Qb 14 rfl (fun w hs => zAo rfl rfl (c := ((pos + z : Nat) : Int)) (by omega) (inI (by omega) (by omega))) hK ?_
   rotate_left
   refine Qc uz3 rfl hs 4 rfl rfl ?_; clear hK; have hK := hs.drop 4; refine zA6 ⟨hK, ?_⟩; refine Qb 14 rfl (fun w hs => zAo rfl rfl (c := ((pos + z : Nat) : Int)) (by omega) (inI (by omega) (by omega))) hK (zAc [7] ⟨⟨_, rfl, ?_⟩, trivial⟩); refine Qc uz3 rfl hs 4 rfl rfl ?_; clear hK; have hK := hs.drop 4; refine zA6 ⟨hK, ?_⟩; refine Qb 8 rfl (fun w hs => zAo rfl rfl (c := ((cc + 1 : Nat) : Int)) (by omega) (inI (by omega) (by omega))) hK ?_
   rotate_left
   all_goals
    refine Q7 15 rfl rfl hK (Q6 16 rfl (o' := 3) zCm rfl sz2 rfl rfl rfl hK (zAc [17] ⟨⟨_, rfl, ?_⟩, trivial⟩)); refine zB0 (v := .int .i64 _) hs 4 rfl sz2 rfl rfl rfl rfl ?_; clear hs; intro w hs
    try simp only [zzs, zzz] at hs
    clear hK; have hK := hs.drop 4; refine zA6 ⟨hK, ?_⟩; refine Q7 18 rfl rfl hK (Q6 19 rfl (o' := 4) zCm rfl sz3 rfl rfl rfl hK (zAc [20] ⟨⟨_, rfl, ?_⟩, trivial⟩)); refine zB0 (v := .int .i64 _) hs 4 rfl sz3 rfl rfl rfl rfl ?_; clear hs; intro w hs
    try simp only [zzs, zzz] at hs
    clear hK; have hK := hs.drop 4; refine zA6 ⟨hK, ?_⟩; refine Q7 21 rfl rfl hK (Q6 22 rfl (o' := 5) zCm rfl sz3 rfl rfl rfl hK (zAc [23] ⟨⟨_, rfl, ?_⟩, trivial⟩)); refine zB0 (v := .int .i64 _) hs 4 rfl sz3 rfl rfl rfl rfl ?_; clear hs; intro w hs
    try simp only [zzs, zzz] at hs
    clear hK; have hK := hs.drop 4; refine zA6 ⟨hK, ?_⟩; refine zAs (by kernel_rfl) ?_; clear hK; have hz := hr.fine _ _ _ rfl
    have hzl : z ≤ mb.length - pos := by have := hz.2.2.1; rw [List.length_drop] at this; exact this
    exact ⟨((W.apply k x).2, qc + 1, cc + 1, pos + z), by simp only; omega, ⟨⟨by simp only; omega, c2, n2, by simp only; rw [← List.drop_drop]; exact hE2, by simp only; omega, by simp only; omega⟩, hs.arr [4, 5, 6, 0] 7 (by decide)⟩, trivial, by repeat (first | exact Out.mix _ _ _ | refine Out.updo rfl ?_ | refine Out.upd rfl ?_ | refine Out.mixIn rfl ?_)⟩
  ·
   intro h29; have g29 := of_decide_eq_false h29; refine zBm rfl (zA4 (zA4 ?_)); have hdn : mb.drop pos = [] := List.drop_eq_nil_iff.2 (by omega); rw [hdn] at hE; obtain ⟨e1, e2, e3, e4⟩ := hE.of_nil; subst e1; subst e2; subst e3; subst e4
   have e5 : c = cc := by omega
   subst e5
   have e6 : n = pos := by omega
   subst e6; refine zA2 (J1 rfl (Jx rfl (Jp (o' := 5) zCm rfl sz3 rfl rfl rfl (Qc uz3 rfl hs 0 rfl rfl (J0 rfl (Jw rfl rfl (zA6 (zB2 rfl ?_ ?_))))))))
   ·
    intro h95; have g95 := of_decide_eq_true h95; refine zA4 (zA2 (J3 rfl (zA6 (zAe (zBi (v := .nilIface) rfl rfl ?_))))); exact ⟨_, rfl, rfl, dk, ha, rfl, by omega, by rw [List.take_of_length_le (by omega), updF_self hf]; exact hI, hs.arr [0, 3, 2] 4 (by decide)⟩
   ·
    intro h95; have g95 := of_decide_eq_false h95; obtain ⟨kc, dc, hcut, hcr, hcc, hccase⟩ := hI.cut hmt hf (m := n) (by omega); obtain ⟨rfl, hup2, har2, hI4⟩ := hccase.resolve_right (fun h => h.2.2.1 ha); refine zAd (zA4 (zA4 (zAq zBk (hs.drop 2) ?_))); intro w tr hK; replace hs := tr _ hs; clear tr; refine Q0 0 rfl rfl hK (Q7 1 rfl rfl hK (Q6 2 rfl (o' := 0) zCm rfl sz25 rfl rfl rfl hK (Qd 3 rfl uz25 rfl (fun w hs => hs.cellAt 0 rfl rfl) hK (Q0 4 rfl rfl hK ?_))))
    refine Q7 5 rfl rfl hK (Q6 6 rfl (o' := 5) zCm rfl sz3 rfl rfl rfl hK (Qd 7 rfl uz3 rfl (fun w hs => hs.cellAt 0 rfl rfl) hK (zAc [8] ⟨⟨_, rfl, ?_⟩, trivial⟩))); refine Qg en97 (cut_sl hM.toK (hs.arr [2, 0, 1, 3] 4 (by decide)) (by omega) mtN (m := ((n : Nat) : Int)) (inI (by omega) (by omega)) hcut) ?_; clear hs; rintro _ w ⟨rfl, hs⟩; clear hK; have hK := hs.tail; refine zA6 ⟨hK, ?_⟩; refine Q1 9 rfl rfl hK (zAs (by kernel_rfl) ?_); clear hK; refine zA4 (zA2 (J8 rfl ?_))
    refine Jv (ad := ad) rfl (zA6 (zAz rfl (rfl) (zAd (zA4 ?_)))); have hI5 := hI4 (hs.openD).1; obtain ⟨ds, hsy, hsr, hsa, hsc, hI6⟩ := hI5.sync (har2 ha) hmt (zD4 _ _ _); refine zA2 (J1 rfl (Jx rfl (Jp (o' := 0) zCm rfl sz25 rfl rfl rfl (Qc uz25 rfl hs 1 rfl rfl (Qg en96 (sync_sl hM.toK hs (by omega) mtN hsy) ?_))))); clear hs; rintro _ w ⟨rfl, hs⟩; refine J6 rfl (zA6 (zAe (zBi (v := zAk ad _) rfl rfl ?_)))
    exact ⟨_, rfl, zB ad, ds, hsa, hsr.trans hcr, by omega, hI6 (hs.openD).1, hs.arr [1, 3, 0] 4 (by decide)⟩
set_option maxHeartbeats 1000000 in
theorem openR_sl (hM : ErrM ad g) (hs : Mem g w (zB9 d dk :: L)) (hI : RawI N B f dk) (hmt : mtN ∈ N) (hsn : snN ∈ N) (ha : dk.armed = 0) (hcl : dk.calls < 800000) (hev : 1 ≤ ev ∧ ev ≤ 4096) (hfn : f snN = none) (hf : f mtN = some mb) (hml : mb.length ≤ 1000000) (hent : Ent [] 0 mb V q c n) (hq : q < 4611686018427387904) :
    Calls Tryz.prog 40 #[.pointer (some ⟨d, 0, none⟩), .int .i64 (ev : Nat)] w (Ret fun v w' => ∃ p dk2, v = .tuple #[.pointer (some ⟨p, 0, none⟩), .nilIface] ∧ dk2.armed = 0 ∧ dk2.room = dk.room ∧ dk2.calls ≤ dk.calls + 4 ∧ RawI N B (zF9 f mtN (mb.take n)) dk2 ∧ Mem g w' (zDs p d ev V q c n :: zB9 d dk2 :: L)) := by
  have hK := hM.toK
  have hll : dk.lenR mtN = (0, mb.length) := by rw [hI.lenR hmt, hf]; rfl
  refine zAh Tryz.func40 rfl rfl ?_
  refine zA4 (zA2 (Jf rfl (J3 rfl (zA6 (zA4 (zA4 (zA2 (J0 rfl (Jn rfl rfl (J2 rfl (zAl rfl rfl (decide_eq_false (by omega)) (J0 rfl ?_)))))))))))); refine zAl rfl rfl (decide_eq_false (by omega)) (Jt rfl rfl (J9 rfl (decide_eq_false (by omega)) rfl (zA6 (zAz rfl (decide_eq_false (by omega)) (zAd (zA4 (zA2 (J1 rfl ?_))))))))
  refine J0 rfl (Qg en74 (newq_sl hs) ?_); clear hs; rintro _ w ⟨pv, rfl, hs⟩; refine Qa (zBw (cs := [.pointer (some ⟨d, 0, none⟩), .int .i64 (ev : Nat), .pointer (some ⟨pv, 0, none⟩), .int .i64 ((0 : Nat) : Int), .int .i64 ((0 : Nat) : Int), .int .i64 ((0 : Nat) : Int)]) zCm ze126 pl126 rfl) (zBp (v := .agg _) hs rfl rfl ?_); clear hs; intro b21 w hs
  try simp only [zzs, zzz] at hs
  refine Jd rfl (zA6 ?_); replace hs : Mem g w (lgP b21 d ev pv 0 0 0 :: zEn pv [] :: zB9 d dk :: L) := hs; refine zA4 (zA4 (zA2 (J1 rfl (Qg en75 (snapNo_sl hM hs (hI.pread_none hsn hfn)) ?_)))); clear hs; rintro _ w ⟨rfl, hs⟩; refine J3 rfl (zA6 (zA4 (zA2 (Jj rfl (Jz rfl (zA6 (zAz rfl (rfl) (zAd (zA4 (zA2 (J1 rfl (Qg en76 (len_sl hM.toK (hs.arr [2, 0, 1] 3 (by decide)) mtN hll) ?_))))))))))))
  clear hs; rintro _ w ⟨rfl, hs⟩; refine Jc rfl (Ju (v := .int .i64 _) rfl rfl (Jg rfl rfl (J4 rfl (J6 rfl (zA6 (zA4 (zA4 (zA2 (J8 rfl (Jq zCq rfl rfl (hK.cellW hs 107 (by decide) rfl) (Qa (zEj (hK.atW hs) (by decide) (by decide) rfl rfl) ?_))))))))))); refine zA6 (zAz rfl (rfl) (zAd (zA4 (zA4 (zA2 (J8 rfl (Jv (ad := ad) rfl (zA6 ?_))))))))
  refine zAz rfl (rfl) (zAd (zA4 (zA4 (zA2 (J1 rfl (J0 rfl (Qg en79 (entriesR_sl hM hI hmt ha (by omega) hf hml hent hq (hs.arr [1, 2, 0] 3 (by decide))) ?_))))))); clear hs; rintro _ w ⟨rfl, dk2, h1, h2, h3, h4, hs⟩; refine J3 rfl (zA6 (zA4 (zA2 (Jj rfl (Jz rfl (zA6 (zAz rfl (rfl) (zAd (zA4 (zA2 (J1 rfl (Jd rfl ?_))))))))))))
  refine J3 rfl (zA6 (zAe (zEd (v := .pointer (some _)) (v2 := .nilIface) rfl rfl rfl ?_))); exact ⟨_, rfl, _, dk2, rfl, h1, h2, by omega, h4, hs.closeL⟩
end
end Go.Proofs.YthejaanobeonnaaGreatDoor
