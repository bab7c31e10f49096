/- up.New. Ways that meet again, told by slots. The remote log: Open, Snap, Append; whatever the power does. The remote log: Append. The statements' entries. The remote log as the statements see it. What an error is as plain data: with a place, too. Errors as the statements see them, bare or with a place. A manifest that came in. What New refuses: two objects; the document's answer. The objects of an upload, one behind the other: what is left. A step of an upload: what it leaves. Sweeps: the views of the statements, orphans. An upload's log where it is new: what it answers. Small functions of the statements: Number, SameBytes. The statements' own: laid, ends, the examples. The statements' manifests: two objects. Closed facts on the program's head, that each row of this seat asks for. -/
import Derived.Test.YthejaanobeonnaaGreatDoorRf6
import Derived.Test.YthejaanobeonnaaGreatDoorRf2
import Derived.Test.YthejaanobeonnaaGreatDoorRf5
import Derived.Test.YthejaanobeonnaaGreatDoorRf4
import Derived.Test.YthejaanobeonnaaGreatDoorRf3
import Derived.Test.YthejaanobeonnaaGreatDoorRows
import Derived.JoinedOf
import Derived.ProofKit
set_option linter.all false
namespace Go.Proofs.YthejaanobeonnaaGreatDoor
section
open Go.RowKit
attribute [local irreducible] zAh eV
variable {g w : World} {L M : List HP} {ad : Nat → Addr} {p u d l c ev n q cc : Nat} {dk : Dk} {V : Vw}
theorem zsPl : (Tryz.prog.info? 109).map (fun i => (i.zero, i.size)) = some (some (.agg #[.string ByteArray.empty, .int .i64 0, .int .u32 0, .int .i64 0, .int .i64 0]), 5) := by kernel_rfl
theorem fill_plan (nm : ByteArray) (a b e f : Int) : Instr.fill (fun i => some (i * 5, 5)) ((Array.range (1 * 5)).map ((Value.agg #[.string ByteArray.empty, .int .i64 0, .int .u32 0, .int .i64 0, .int .i64 0]).cells[· % (Value.agg #[.string ByteArray.empty, .int .i64 0, .int .u32 0, .int .i64 0, .int .i64 0]).cells.size]!)) [(0, .agg (planC nm a b e f).toArray)] = some (planC nm a b e f).toArray := by kernel_rfl
def upTo (d l c E : Nat) (m : Mf) (s1 s2 : SA) (x : Nat × List (List UInt8 × SA) × SA × SA) : UpT := ⟨d, l, c, m, s1, s2, E, x.2.1, x.2.2.1, x.2.2.2⟩
def NewR (ad : Nat → Addr) (g : World) (each : Int) (m : Mf) (bs : List (List UInt8)) (V : Vw) (d l c : Nat) (is : Bool) (z : S4) (R : List HP) (v : Value) (w' : World) : Prop :=
  ((upF each m bs).1 ≠ 0 ∧ ∃ eb, v = .tuple #[.pointer none, flV ad (upF each m bs) eb] ∧ Mem g w' (flC ad (upF each m bs) eb :: R)) ∨
  ((upF each m bs).1 = 0 ∧ 2 ≤ V.state m.id ∧ v = .tuple #[.pointer none, zAh ad 113] ∧ Mem g w' R) ∨
  ((upF each m bs).1 = 0 ∧ V.state m.id < 2 ∧ ∃ u s1 s2 xs s3 s4, v = .tuple #[.pointer (some ⟨u, 0, none⟩), .nilIface] ∧ xs.map (·.1) = bs ∧ Mem g w' (UpC u ⟨d, l, c, m, s1, s2, each.toNat, xs, s3, s4⟩ (if is = true ∧ z.1 = m.id ∧ V.state m.id = 1 ∧ fitsB each.toNat bs z = true then z else (m.id, 0, 0, 0)) false :: R))
theorem Mem.noPlans {b E : Nat} {m : Mf} {s1 s2 : SA} {L : List HP} (hs : Mem g w (cells b (upL (upZ d l c E m s1 s2) (m.id, 0, 0, 0) false) 106 :: zEy 2 (.slice s1.1 m.eps.length s1.2) (m.eps.map prL) :: zEy 3 (.slice s2.1 m.obs.length s2.2) (m.obs.map obL) :: own (.slice none 0 0) [] :: zEy 5 (.slice none 0 0) [] :: Go.Proofs.YthejaanobeonnaaGreatDoor.stars [] :: L)) : Mem g w (ucO b (upTo d l c E m s1 s2 (0, [], (none, 0), (none, 0))) (m.id, 0, 0, 0) false L) := by
  have h0 : zC9 E m.obs [] = [] := by simp [zC9]
  show Mem g w (upP b (upTo d l c E m s1 s2 (0, [], (none, 0), (none, 0))) (m.id, 0, 0, 0) false :: zEy 2 (.slice s1.1 m.eps.length s1.2) (m.eps.map prL) :: zEy 3 (.slice s2.1 m.obs.length s2.2) (m.obs.map obL) :: own (.slice none 0 0) [] :: zEy 5 (.slice none 0 0) (zC9 E m.obs []) :: Go.Proofs.YthejaanobeonnaaGreatDoor.stars [] :: L)
  rw [h0]; exact hs
theorem zip_snoc {α β : Type} {o : α} {z : β} : ∀ {os : List α} {xs : List β}, os[xs.length]? = some o → os.zip (xs ++ [z]) = os.zip xs ++ [(o, z)]
  | [], _, h => by simp at h
  | a :: os, [], h => by simp at h; subst h; simp
  | a :: os, x :: xs, h => by
    have h : os[xs.length]? = some o := by simpa using h
    simp [zip_snoc h]
theorem plans_more {E : Nat} {os : List Ob} {xs : List (List UInt8 × SA)} {o : Ob} {z : List UInt8 × SA} (h : os[xs.length]? = some o) : zC9 E os xs ++ [zEi E o z.1] = zC9 E os (xs ++ [z]) := by
  unfold zC9
  rw [zip_snoc h, List.map_append]
  rfl
theorem Mem.moreUp {b E k n3 n4 : Nat} {m : Mf} {s1 s2 b3 b4 c3 c4 : SA} {xs : List (List UInt8 × SA)} {z : List UInt8 × SA} {R : List HP} {R3 : List Value} {R5 : List (List Value)} (h3 : n3 = (xs ++ [z]).length) (h4 : n4 = (xs ++ [z]).length) (h5 : R5 = zC9 E m.obs (xs ++ [z])) (h6 : R3 = (xs ++ [z]).map bV)
    (hs : Mem g w (Go.Proofs.YthejaanobeonnaaGreatDoor.stars ((xs ++ [z]).map bC) :: cells b (((upL (upTo d l c E m s1 s2 (k, xs, c3, c4)) (m.id, 0, 0, 0) false).set 10 (.slice b4.1 n4 b4.2)).set 9 (.slice b3.1 n3 b3.2)) 106 :: zEy 2 (.slice s1.1 m.eps.length s1.2) (m.eps.map prL) :: zEy 3 (.slice s2.1 m.obs.length s2.2) (m.obs.map obL) :: own (.slice b3.1 n3 b3.2) R3 :: zEy 5 (.slice b4.1 n4 b4.2) R5 :: R)) : Mem g w (ucO b (upTo d l c E m s1 s2 (k + 1, xs ++ [z], b3, b4)) (m.id, 0, 0, 0) false R) := by
  subst h3 h4 h5 h6; exact hs.arr [1, 2, 3, 4, 5, 0] 6 (by decide)
abbrev newH (A B C : HP) (t : UpT) (L : List HP) : List HP := A :: B :: zEy 2 (.slice t.s1.1 t.m.eps.length t.s1.2) (t.m.eps.map prL) :: zEy 3 (.slice t.s2.1 t.m.obs.length t.s2.2) (t.m.obs.map obL) :: stars (t.xs.map bC) :: C :: L
set_option maxRecDepth 100000 in
set_option maxHeartbeats 4000000 in
theorem upNew_sl (hE : ErrU ad g) (hs : Mem g w (zDl l d ev V q cc n :: zBc d dk :: L)) {each : Int} (hea : zDi each) {m : Mf} {e o : SA} (hm : MfR g L m e o) (hob : m.obs.length ≤ 1000000) (heps : (mfF m).1 = 0 → m.eps.length ≤ 1000000) {ab : Option Addr} {cb : Nat} {bl : List (List UInt8 × SA)} (hb : Rd g L (.slice ab bl.length cb) (bl.map bV)) (hbr : ∀ x ∈ bl, Rd g L (bV x) (zAm x.1)) (hbl : ∀ x ∈ bl, x.1.length ≤ 1048576) {is : Bool} {z : S4} (hj : jst (dk.pread nUp) = (0, is, z.1, z.2.1, z.2.2.1, z.2.2.2)) (hz : 0 ≤ z.2.1) :
    Calls Tryz.prog 15 #[.pointer (some ⟨d, 0, none⟩), .pointer (some ⟨l, 0, none⟩), .pointer (some ⟨c, 0, none⟩), .int .i64 each, .agg (mfL m e o).toArray, .slice ab bl.length cb] w (Ret (NewR ad g each m (bl.map (·.1)) V d l c is z (zDl l d ev V q cc n :: zBc d dk :: L))) := by
  obtain ⟨ea, ec⟩ := e; obtain ⟨oa, oc⟩ := o; obtain ⟨z1, z2, z3, z4⟩ := z; simp only at hj hz; have hb0 : (bl.map (·.1)).length = bl.length := List.length_map ..; refine zAf Tryz.func15 rfl rfl ?_
  skip
  refine zA3 (zA1 ?_); refine zBh (v := .agg _) hs rfl rfl ?_; clear hs; intro b10 w hs
  try simp only [zzs, zzz] at hs
  refine zA rfl (zA0 (v := .pointer none) rfl) ?_; refine zA rfl (zA0 (v := .nilIface) rfl) ?_; refine zA6 ?_; refine zA3 ?_; refine zA3 (zA1 ?_); refine zA rfl (zA2 (v := .int .i64 _) rfl) ?_; refine zA rfl (zB9 rfl rfl) ?_; refine zA rfl (zA2 (v := .bool _) rfl) ?_; refine zB0 (t := _) (d := 26) rfl ?_ ?_
  ·
   intro h25; have g25 := of_decide_eq_true h25; refine zA9 rfl rfl rfl h25 ?_; refine zA9 rfl rfl rfl h25 ?_; refine zA rfl (zAk (v := .bool _) rfl h25 rfl) ?_; refine zA6 ?_; refine zB6 rfl rfl ?_; refine zA3 ?_; refine zAp zBk hs ?_; intro w tr hK; replace hs := tr _ hs; clear tr; refine zA5 0 rfl rfl (fun w hs => zA7 zCe rfl rfl (hE.cellW hs 105 (by decide) rfl)) hK ?_; refine zA5 1 rfl rfl (fun w hs => zA0 (v := .pointer none) rfl) hK ?_; refine zA5 2 rfl rfl (fun w hs => zA0 (v := zAh ad _) rfl) hK ?_; refine zAr (by kernel_rfl) ?_; clear hK; refine zAc ?_; refine zDz (v := .pointer none) (v2 := zAh ad _) rfl rfl rfl ?_
   have hF : upF each m (bl.map (·.1)) = (105, none) := by rw [upF, if_pos (by omega)]
   refine ⟨_, rfl, Or.inl ?_⟩; rw [hF]; exact ⟨by decide, 0, rfl, hs.tail.addE (emp_okF _)⟩
  ·
   intro h25; have g25 := of_decide_eq_false h25; refine zAi rfl rfl h25 ?_; refine zA rfl (zA2 (v := .int .i64 _) rfl) ?_; refine zAi rfl rfl h25 ?_; refine zA rfl (zBl rfl rfl) ?_; refine zA rfl (zAg (v := .bool _) rfl h25 rfl) ?_; refine zA6 ?_; refine zB rfl ?_ ?_
   ·
    intro h28; have g28 := of_decide_eq_true h28; refine zA3 ?_; refine zAp zBk hs ?_; intro w tr hK; replace hs := tr _ hs; clear tr; refine zA5 0 rfl rfl (fun w hs => zA7 zCe rfl rfl (hE.cellW hs 105 (by decide) rfl)) hK ?_; refine zA5 1 rfl rfl (fun w hs => zA0 (v := .pointer none) rfl) hK ?_; refine zA5 2 rfl rfl (fun w hs => zA0 (v := zAh ad _) rfl) hK ?_; refine zAr (by kernel_rfl) ?_; clear hK; refine zAc ?_; refine zDz (v := .pointer none) (v2 := zAh ad _) rfl rfl rfl ?_
    have hF : upF each m (bl.map (·.1)) = (105, none) := by rw [upF, if_pos (by omega)]
    refine ⟨_, rfl, Or.inl ?_⟩; rw [hF]; exact ⟨by decide, 0, rfl, hs.tail.addE (emp_okF _)⟩
   ·
    intro h28; have g28 := of_decide_eq_false h28; refine zAd ?_; refine zA3 ?_; refine zA3 (zA1 ?_); refine zA rfl (zBy hs 0 (mfL m (ea, ec) (oa, oc)) rfl zCb zF2 rfl rfl) ?_; refine zAb rfl en45 (validM_sl hE.uV (x := m) (e := (ea, ec)) (o := (oa, oc)) hs hm.cons.cons.cons hob) ?_; clear hs; rintro _ w ⟨eb, rfl, hs⟩; refine zA rfl (zA0 (v := flV ad _ _) rfl) ?_; refine zA6 (zA3 (zA1 ?_)); refine zA rfl (zA2 (v := flV ad _ _) rfl) ?_; refine zA rfl (run_neF (mfF_ok m).place rfl) ?_; refine zA6 ?_; refine zB rfl ?_ ?_
    ·
     intro h34; have g34 := zEt h34
     have h0 : (mfF m).1 ≠ 0 := by simpa using h34
     refine zA3 (zA1 ?_); refine zA rfl (zA2 (v := flV ad _ _) rfl) ?_; refine zA rfl (zA0 (v := .pointer none) rfl) ?_; refine zA rfl (zA0 (v := flV ad _ _) rfl) ?_; refine zA6 ?_; refine zAc ?_; refine zDz (v := .pointer none) (v2 := flV ad _ _) rfl rfl rfl ?_
     have hF : upF each m (bl.map (·.1)) = mfF m := by rw [upF, if_neg (by omega), if_pos h0]
     refine ⟨_, rfl, Or.inl ?_⟩; rw [hF]; exact ⟨h0, eb, rfl, hs.arr [0, 2, 3] 4 (by decide)⟩
    ·
     intro h34; have g34 := zEs h34
     have h0 : (mfF m).1 = 0 := by simpa using h34
     replace hs := hs.tail; refine zAd ?_; refine zA3 ?_; refine zA3 (zA1 ?_); refine zA rfl (zA2 (v := .slice _ _ _) rfl) ?_; refine zA rfl (zAt zG1 rfl) ?_; refine zA rfl (zA4 (o' := 5) zCb rfl sz37 rfl rfl rfl) ?_; refine zA rfl (zA7 zDf rfl rfl (hs.cellAt 0 rfl rfl)) ?_; refine zA rfl (zAt zDf rfl) ?_; refine zA rfl (zCf rfl rfl) ?_; refine zA6 ?_; refine zB rfl ?_ ?_
     ·
      intro h41; have g41 := zEt h41; refine zA3 ?_; refine zAp zBk hs ?_; intro w tr hK; replace hs := tr _ hs; clear tr; refine zA5 0 rfl rfl (fun w hs => zA7 zCe rfl rfl (hE.cellW hs 103 (by decide) rfl)) hK ?_; refine zA5 1 rfl rfl (fun w hs => zA0 (v := .pointer none) rfl) hK ?_; refine zA5 2 rfl rfl (fun w hs => zA0 (v := zAh ad _) rfl) hK ?_; refine zAr (by kernel_rfl) ?_; clear hK; refine zAc ?_; refine zDz (v := .pointer none) (v2 := zAh ad _) rfl rfl rfl ?_
      have hF : upF each m (bl.map (·.1)) = (103, none) := by rw [upF, if_neg (by omega), if_neg (by simpa using h0), if_pos (by rw [hb0]; omega)]
      refine ⟨_, rfl, Or.inl ?_⟩; rw [hF]; exact ⟨by decide, 0, rfl, hs.tail.addE (emp_okF _)⟩
     ·
      intro h41; have g41 := zEs h41; refine zAd ?_; refine zA3 ?_; refine zAp zBk hs ?_; intro w tr hK; replace hs := tr _ hs; clear tr; refine zA5 0 rfl rfl (fun w hs => zA2 (v := .pointer (some _)) rfl) hK ?_; refine zA5 1 rfl rfl (fun w hs => zA2 (v := .pointer (some _)) rfl) hK ?_; refine zA5 2 rfl rfl (fun w hs => zA2 (v := .pointer (some _)) rfl) hK ?_; refine zA5 3 rfl rfl (fun w hs => zBy hs 0 (mfL m (ea, ec) (oa, oc)) rfl zCb zF2 rfl rfl) hK ?_; refine zA5 5 rfl rfl (fun w hs => zA4 (o' := 0) zCb rfl sz3 rfl rfl rfl) hK ?_; refine zA5 6 rfl rfl (fun w hs => zA7 uz3 rfl rfl (hs.cellAt 0 rfl rfl)) hK ?_
      refine zA5 7 rfl rfl (fun w hs => zBs (cs := [.int .i64 m.id, .int .i64 0, .int .i64 0, .int .i64 0]) zCy ze103 pl103 rfl) hK ?_; refine zAe [4] ?_; refine ⟨⟨_, rfl, ?_⟩, trivial⟩; refine zAb rfl en46 (cloneM_sl hs (x := m) (e := (ea, ec)) (o := (oa, oc)) hm.cons.cons.cons (heps h0) hob) ?_; clear hs; rintro _ w ⟨s1, s2, rfl, hs⟩; clear hK; have hK := hs.tail.tail; refine zA6 ⟨hK, ?_⟩; refine @zF7 _ _ _ _ _ _ _ _ _ _ _ _ _ _ 8 _ rfl (by kernel_rfl) (by kernel_rfl) (by kernel_rfl) rfl (fun w hs => run_buildUp (E := each.toNat) (m := m) (e := s1) (o := s2) zCx ze106 pl106 rfl rfl rfl rfl rfl) hK ?_; refine zAe [9] ?_; refine ⟨⟨_, rfl, ?_⟩, trivial⟩
      refine zBh (v := .agg _) hs rfl rfl ?_; clear hs; intro b52 w hs
      try simp only [zzs, zzz] at hs
      clear hK; have hK := hs.tail.tail.tail; refine zA6 ⟨hK, ?_⟩; refine zA5 10 rfl rfl (fun w hs => zA0 (v := .pointer (some _)) rfl) hK ?_; refine zAr (by kernel_rfl) ?_; clear hK; obtain ⟨E, rfl⟩ : ∃ E : Nat, each = E := ⟨each.toNat, by omega⟩; replace hs := (((Mem.stars (M := []) (L := _ :: _ :: _ :: _ :: _ :: _ :: L) hs).addE (rowK_nil 5 _)).addE (zD8 _)).arr [3, 4, 5, 0, 1, 2, 6, 7, 8] 9 (by decide); refine zA3 ?_; refine zA3 (zA1 ?_); refine zA rfl (zA4 (o' := 5) zCb rfl sz37 rfl rfl rfl) ?_; refine zA rfl (zA7 zDf rfl rfl (hs.cellAt 6 rfl rfl)) ?_; refine zA rfl (zAt zDf rfl) ?_; refine zA rfl (zA2 (v := .int .i64 _) rfl) ?_; refine zA6 ?_; refine zAo ?_
      refine zBr (X := Nat × List (List UInt8 × SA) × SA × SA) [12, 13, 16, 17, 18, 19, 56, 57, 58, 59, 60, 61, 62, 63, 64, 65, 66, 67, 68, 69, 70, 71, 72, 73, 74, 75, 76, 77, 78, 79, 80, 81, 82, 83, 84, 85, 86, 87, 88, 89, 90, 91, 92, 93, 94, 95, 96, 97, 98, 99, 100, 101, 102, 103, 104, 105, 106, 107, 108, 109, 110, 111] (fun x => [(56, .int .i64 (x.1 : Nat))]) (fun x w => (x.1 ≤ m.obs.length ∧ x.2.1.map (·.1) = (bl.map (·.1)).take x.1 ∧ upG E 0 m.obs (bl.map (·.1)) = upG E x.1 (m.obs.drop x.1) ((bl.map (·.1)).drop x.1)) ∧ Mem g w (ucO b52 (upTo d l c E m s1 s2 x) (m.id, 0, 0, 0) false (cells b10 (mfL m (ea, ec) (oa, oc)) 39 :: zDl l d ev V q cc n :: zBc d dk :: L))) (fun x => m.obs.length - x.1) ((0, [], (none, 0), (none, 0))) ?_ ?_ ?_
      · exact ⟨rfl, trivial⟩
      · exact ⟨⟨Nat.zero_le _, rfl, rfl⟩, Mem.noPlans hs⟩
      clear hs; rintro x ξ w hI; obtain ⟨k, xs, ⟨a3, c3⟩, ⟨a4, c4⟩⟩ := x; obtain ⟨⟨hk, hxs, hup⟩, hs⟩ := hI; simp only at hk hxs hup hs
      show cw _ _ _ _ _ _ (updL (mix _ ξ _) [(56, .int .i64 (k : Nat))]) w
      refine zA3 (zA1 ?_); refine zA rfl (zB9 rfl rfl) ?_; refine zA6 ?_; refine zA3 ?_; refine zB rfl ?_ ?_
      ·
       intro h57; have g57 := of_decide_eq_true h57; obtain ⟨ob, hob2⟩ : ∃ ob, m.obs[k]? = some ob := ⟨_, List.getElem?_eq_getElem (by omega)⟩; obtain ⟨y, hy⟩ : ∃ y, bl[k]? = some y := ⟨_, List.getElem?_eq_getElem (by omega)⟩; have hym := List.mem_of_getElem? hy
       have hyv : (bl.map bV)[k]? = some (bV y) := by rw [List.getElem?_map, hy]; rfl
       have hyb : (bl.map (·.1))[k]? = some y.1 := by rw [List.getElem?_map, hy]; rfl
       rw [upG_at hob2 hyb] at hup
       have hxl : xs.length = k := by have := congrArg List.length hxs; simp only [List.length_map, List.length_take] at this; omega
       obtain ⟨bo, oo, rfl⟩ := hm.obs.at (hs.suffix 9 rfl) (by rw [zE9]; omega); obtain ⟨bb, bo2, rfl, _⟩ := hb.cells' (hs.suffix 9 rfl) (by rw [List.length_map]; omega); refine zAd ?_; refine zA3 ?_; refine zAo ?_; refine zA3 (zA1 ?_); refine zA rfl (zA2 (v := .int .i64 _) rfl) ?_; refine zA rfl (zAs zDf sz66 rfl rfl rfl (by omega) rfl) ?_; refine zA rfl (zCo (cs := obL ob) uz66 sz66 rfl (fun j v hj => hm.obs.cell (hs.suffix 9 rfl) (zFg hob2) hj)) ?_; refine zBn hs rfl ze66 ?_; clear hs; intro b17 w hs
       try simp only [zzs, zzz] at hs
       refine zA rfl (zA0 (v := .int .i64 _) rfl) ?_; refine zAn hs 0 rfl rfl rfl sz66 rfl rfl ?_; clear hs; intro w hs
       try simp only [zzs, zzz] at hs
       refine zA6 ?_; refine zA3 ?_; refine zAp zBk hs ?_; intro w tr hK; replace hs := tr _ hs; clear tr; refine zA5 0 rfl rfl (fun w hs => zBa hs 0 rfl uz66 sz66 rfl) hK ?_; refine zA5 1 rfl rfl (fun w hs => zA2 (v := .slice _ _ _) rfl) hK ?_; refine zA5 2 rfl rfl (fun w hs => zA2 (v := .int .i64 _) rfl) hK ?_; refine zA5 3 rfl rfl (fun w hs => zBb zG1 sz22 rfl rfl rfl (by omega) rfl) hK ?_; refine zA5 4 rfl rfl (fun w hs => zA7 zCk rfl rfl (hb.cellAt (hs.suffix 10 rfl) hyv)) hK ?_; refine zAe [5] ?_; refine ⟨⟨_, rfl, ?_⟩, trivial⟩; refine zAb rfl en47 (check_sl hE hs (fun w hs => hbr y hym w (hs.suffix 10 rfl)) (hbl y hym)) ?_; clear hs; rintro _ w ⟨rfl, hs⟩; clear hK; have hK := hs
       refine zA6 ⟨hK, ?_⟩; refine zA5 6 rfl rfl (fun w hs => zA0 (v := zAh ad _) rfl) hK ?_; refine zAr (by kernel_rfl) ?_; clear hK; refine zA3 (zA1 ?_); refine zBn hs rfl ze109 ?_; clear hs; intro b19 w hs
       try simp only [zzs, zzz] at hs
       refine zA6 ?_; refine zA3 ?_; refine zA3 (zA1 ?_); refine zA rfl (zA2 (v := zAh ad _) rfl) ?_; refine zA rfl (zDe (ad := ad) rfl) ?_; refine zA6 ?_; refine zB rfl ?_ ?_
       ·
        intro h68; have g68 := of_decide_eq_true h68
        have hck : obCk ob y.1 = 0 := by simpa using h68
        refine zAp zBk hs.tail ?_; intro w tr hK; replace hs := tr _ hs; clear tr; refine zA5 0 rfl rfl (fun w hs => zA4 (o' := 0) uz66 rfl sz9 rfl rfl rfl) hK ?_; refine zA5 1 rfl rfl (fun w hs => zA7 uz9 rfl rfl (hs.cellAt 0 rfl rfl)) hK ?_; refine zA5 2 rfl rfl (fun w hs => zA2 (v := .slice _ _ _) rfl) hK ?_; refine zA5 3 rfl rfl (fun w hs => zA2 (v := .int .i64 _) rfl) hK ?_; refine zA5 4 rfl rfl (fun w hs => zBb zG1 sz22 rfl rfl rfl (by omega) rfl) hK ?_; refine zA5 5 rfl rfl (fun w hs => zA7 zCk rfl rfl (hb.cellAt (hs.suffix 10 rfl) hyv)) hK ?_; refine zA5 6 rfl rfl (fun w hs => zA2 (v := .int .i64 _) rfl) hK ?_; refine zAe [7] ?_; refine ⟨⟨_, rfl, ?_⟩, trivial⟩
        refine zAb rfl en48 (pmake_sl hE.uG hs (fun w hs => hbr y hym w (hs.suffix 11 rfl)) rfl (hbl y hym) hea) ?_; clear hs; rintro _ w ⟨c77, nm77, sz77, sm77, ea77, pa77, hmk, rfl, hs⟩; clear hK; have hK := hs.tail; refine zA6 ⟨hK, ?_⟩; refine zA5 8 rfl rfl (fun w hs => zA2 (v := .tuple _) rfl) hK ?_; refine zA5 9 rfl rfl (fun w hs => zAa (v := .agg _) rfl rfl) hK ?_; refine zA5 10 rfl rfl (fun w hs => zAa (v := zAh ad _) rfl rfl) hK ?_; refine zAe [11] ?_; refine ⟨⟨_, rfl, ?_⟩, trivial⟩; refine zAn hs 0 rfl rfl rfl zG3 rfl rfl ?_; clear hs; intro w hs
        try simp only [zzs, zzz] at hs
        clear hK; have hK := hs.tail; refine zA6 ⟨hK, ?_⟩; refine zA5 12 rfl rfl (fun w hs => zA0 (v := zAh ad _) rfl) hK ?_; refine zAr (by kernel_rfl) ?_; clear hK; refine zA3 ?_; refine zA3 (zA1 ?_); refine zA rfl (zA2 (v := zAh ad _) rfl) ?_; refine zA rfl (zAx (ad := ad) rfl) ?_; refine zA6 ?_; refine zB rfl ?_ ?_
        ·
         intro h81; have g81 := zEt h81; refine zA3 (zA1 ?_); refine zA rfl (zA2 (v := .int .i64 _) rfl) ?_; refine zA rfl (zA2 (v := zAh ad _) rfl) ?_; refine zA rfl (zC0 [.int .i64 (k : Nat), zAh ad c77] uz114 ze114 pl114 rfl (at_one _ _) rfl rfl) ?_; refine zBh (v := .agg _) hs rfl rfl ?_; clear hs; intro b85 w hs
         try simp only [zzs, zzz] at hs
         refine zA rfl (run_mkI uz112 rfl) ?_; refine zA rfl (zA0 (v := .pointer none) rfl) ?_; refine zA rfl (zA0 (v := .iface _ (.pointer (some _))) rfl) ?_; refine zA6 ?_; refine zAc ?_; refine zDz (v := .pointer none) (v2 := .iface _ (.pointer (some _))) rfl rfl rfl ?_
         have hg : obG E ob y.1 = c77 := by rw [obG, if_neg (by simp [hck]), hmk]
         have hF : upF E m (bl.map (·.1)) = (c77, some k) := by rw [upF, if_neg (by omega), if_neg (by simpa using h0), if_neg (by rw [hb0]; omega), hup, hg, if_pos g81]
         refine ⟨_, rfl, Or.inl ?_⟩; rw [hF]; exact ⟨g81, b85, rfl, hs.arr [0, 10, 11] 12 (by decide)⟩
        ·
         intro h81; have g81 := zEs h81
         have hc0 : c77 = 0 := by simpa using h81
         subst hc0; obtain ⟨rfl, rfl, rfl, rfl, rfl⟩ := mkR_ok hmk; refine zAd ?_
         have hpl : (zC9 E m.obs xs).length = k := by rw [zC9, List.length_map, List.length_zip]; omega
         replace hs := hs.arr [2, 5, 6, 0, 1, 3, 4, 7, 8, 9, 10] 11 (by decide); refine zAp zBk ((show Mem g w (newH (cells b19 (zEi E ob y.1) 109) (cells b17 (obL ob) 66) (cells b10 (mfL m (ea, ec) (some ⟨bo, oo, none⟩, oc)) 39) (upTo d l c E m s1 s2 (k, xs, (a3, c3), (a4, c4))) (zDl l d ev V q cc n :: zBc d dk :: L)) from by first | exact hs.suffix 3 rfl | exact hs.suffix 4 rfl | exact hs.suffix 5 rfl | exact hs.suffix 6 rfl)) ?_; intro w tr hK; replace hs := tr _ hs; clear tr; refine zA5 0 rfl rfl (fun w hs => zA2 (v := .pointer (some _)) rfl) hK ?_; refine zA5 1 rfl rfl (fun w hs => zA2 (v := .pointer (some _)) rfl) hK ?_
         refine zA5 2 rfl rfl (fun w hs => zA2 (v := .pointer (some _)) rfl) hK ?_; refine zA5 3 rfl rfl (fun w hs => zA8 rfl) hK ?_; refine zA5 4 rfl rfl (fun w hs => zA4 (o' := 10) zCx rfl sz104 rfl rfl rfl) hK ?_; refine zA5 6 rfl rfl (fun w hs => zBa hs 0 rfl zE zG3 rfl) hK ?_; refine zA5 9 rfl rfl (fun w hs => zA2 (v := .pointer (some _)) rfl) hK ?_; refine zA5 10 rfl rfl (fun w hs => zA8 rfl) hK ?_; refine zA5 11 rfl rfl (fun w hs => zA4 (o' := 9) zCx rfl sz62 rfl rfl rfl) hK ?_; refine zA5 13 rfl rfl (fun w hs => zA2 (v := .slice _ _ _) rfl) hK ?_; refine zA5 14 rfl rfl (fun w hs => zA2 (v := .int .i64 _) rfl) hK ?_
         refine zA5 15 rfl rfl (fun w hs => zBb zG1 sz22 rfl rfl rfl (by omega) rfl) hK ?_; refine zA5 16 rfl rfl (fun w hs => zA7 zCk rfl rfl (hb.cellAt (hs.suffix 8 rfl) hyv)) hK ?_; refine zAe [5, 7, 12] ?_; refine ⟨⟨_, rfl, ?_⟩, ⟨_, rfl, ?_⟩, ⟨_, rfl, ?_⟩, trivial⟩; refine zA rfl (zA7 zDc rfl rfl (hs.cellAt 0 rfl rfl)) ?_; clear hK; have hK := (show Mem g w (newH (cells b19 (zEi E ob y.1) 109) (cells b17 (obL ob) 66) (cells b10 (mfL m (ea, ec) (some ⟨bo, oo, none⟩, oc)) 39) (upTo d l c E m s1 s2 (k, xs, (a3, c3), (a4, c4))) (zDl l d ev V q cc n :: zBc d dk :: L)) from by first | exact hs.suffix 3 rfl | exact hs.suffix 4 rfl | exact hs.suffix 5 rfl | exact hs.suffix 6 rfl)
         refine zA6 ⟨hK, ?_⟩; refine zAe [7, 12] ?_; refine ⟨⟨_, rfl, ?_⟩, ⟨_, rfl, ?_⟩, trivial⟩; refine zDb hs rfl (row := zEi E ob y.1) zDc zsPl rfl (fill_plan _ _ _ _ _) (by decide) (by decide) ?_; clear hs; intro b94 w hs; clear hK; have hK := hs.suffix 4 rfl; refine zA6 ⟨hK, ?_⟩; refine zAe [8, 12] ?_; refine ⟨⟨_, rfl, ?_⟩, ⟨_, rfl, ?_⟩, trivial⟩; refine zCm hs rfl 3 0 rfl rfl zDc zDc in109 rfl rfl (by rfl) rfl rfl (by show ((zC9 E m.obs xs).length + 1) * _ ≤ 140737488355328; rw [hpl]; omega) (by show (zC9 E m.obs xs).length + 1 ≤ _; rw [hpl]; omega) ?_; clear hs; intro a95 c95 w hs; simp only [zzs, zzz] at hs; clear hK; have hK := hs.suffix 4 rfl
         refine zA6 ⟨hK, ?_⟩; refine zAe [12, 17] ?_; refine ⟨⟨_, rfl, ?_⟩, ⟨_, rfl, ?_⟩, trivial⟩; refine zA rfl (zA7 zG1 rfl rfl (hs.cellAt 1 rfl rfl)) ?_; clear hK; have hK := (show Mem g w (newH (cells b19 (zEi E ob y.1) 109) (cells b17 (obL ob) 66) (cells b10 (mfL m (ea, ec) (some ⟨bo, oo, none⟩, oc)) 39) (upTo d l c E m s1 s2 (k, xs, (a3, c3), (a4, c4))) (zDl l d ev V q cc n :: zBc d dk :: L)) from by first | exact hs.suffix 3 rfl | exact hs.suffix 4 rfl | exact hs.suffix 5 rfl | exact hs.suffix 6 rfl); refine zA6 ⟨hK, ?_⟩; refine zAe [17] ?_; refine ⟨⟨_, rfl, ?_⟩, trivial⟩
         refine zAb rfl en49 (zCj hs (l := y.1) (fun w hs => hbr y hym w (hs.suffix 12 rfl)) (by have := hbl y hym; omega)) ?_; clear hs; rintro _ w ⟨a104, c104, rfl, hs⟩; rw [zAv] at hs ⊢
         have hone : ∀ u ∈ [bV (y.1, (a104, c104))], u.oneCell' = true := fun u hu => by simp only [List.mem_cons, List.not_mem_nil, or_false] at hu; subst hu; rfl
         clear hK; have hK := hs.suffix 5 rfl; refine zA6 ⟨hK, ?_⟩; refine zAe [18] ?_; refine ⟨⟨_, rfl, ?_⟩, trivial⟩; refine zB1 hs rfl ([bV (y.1, (a104, c104))]) zG1 zs22 rfl (fun u hu => (by simp only [List.mem_cons, List.not_mem_nil, or_false] at hu; subst hu; rfl)) rfl rfl rfl ?_; clear hs; intro b105 w hs
         try simp only [zzs, zzz] at hs
         clear hK; have hK := hs.suffix 6 rfl
         rotate_left
         refine zAb rfl en49 (zCj hs (l := y.1) (fun w hs => hbr y hym w (hs.suffix 12 rfl)) (by have := hbl y hym; omega)) ?_; clear hs; rintro _ w ⟨a104, c104, rfl, hs⟩; rw [zAv] at hs ⊢
         have hone : ∀ u ∈ [bV (y.1, (a104, c104))], u.oneCell' = true := fun u hu => by simp only [List.mem_cons, List.not_mem_nil, or_false] at hu; subst hu; rfl
         clear hK; have hK := hs.suffix 5 rfl; refine zA6 ⟨hK, ?_⟩; refine zAe [12, 18] ?_; refine ⟨⟨_, rfl, ?_⟩, ⟨_, rfl, ?_⟩, trivial⟩; refine zA rfl (zA7 zG1 rfl rfl (hs.cellAt 2 rfl rfl)) ?_; clear hK; have hK := (show Mem g w (newH (cells b19 (zEi E ob y.1) 109) (cells b17 (obL ob) 66) (cells b10 (mfL m (ea, ec) (some ⟨bo, oo, none⟩, oc)) 39) (upTo d l c E m s1 s2 (k, xs, (a3, c3), (a4, c4))) (zDl l d ev V q cc n :: zBc d dk :: L)) from by first | exact hs.suffix 3 rfl | exact hs.suffix 4 rfl | exact hs.suffix 5 rfl | exact hs.suffix 6 rfl); refine zA6 ⟨hK, ?_⟩; refine zAe [18] ?_; refine ⟨⟨_, rfl, ?_⟩, trivial⟩
         refine zB1 hs rfl ([bV (y.1, (a104, c104))]) zG1 zs22 rfl (fun u hu => (by simp only [List.mem_cons, List.not_mem_nil, or_false] at hu; subst hu; rfl)) rfl rfl rfl ?_; clear hs; intro b105 w hs
         try simp only [zzs, zzz] at hs
         clear hK; have hK := hs.suffix 6 rfl
         rotate_left
         refine zB1 hs rfl ([bV (y.1, (a104, c104))]) zG1 zs22 rfl (fun u hu => (by simp only [List.mem_cons, List.not_mem_nil, or_false] at hu; subst hu; rfl)) rfl rfl rfl ?_; clear hs; intro b105 w hs
         try simp only [zzs, zzz] at hs
         clear hK; have hK := hs.suffix 6 rfl; refine zA6 ⟨hK, ?_⟩; refine zAe [12] ?_; refine ⟨⟨_, rfl, ?_⟩, trivial⟩; refine zA rfl (zA7 zG1 rfl rfl (hs.cellAt 3 rfl rfl)) ?_; clear hK; have hK := (show Mem g w (newH (cells b19 (zEi E ob y.1) 109) (cells b17 (obL ob) 66) (cells b10 (mfL m (ea, ec) (some ⟨bo, oo, none⟩, oc)) 39) (upTo d l c E m s1 s2 (k, xs, (a3, c3), (a4, c4))) (zDl l d ev V q cc n :: zBc d dk :: L)) from by first | exact hs.suffix 3 rfl | exact hs.suffix 4 rfl | exact hs.suffix 5 rfl | exact hs.suffix 6 rfl)
         rotate_left
         refine zA rfl (zA7 zG1 rfl rfl (hs.cellAt 1 rfl rfl)) ?_; clear hK; have hK := (show Mem g w (newH (cells b19 (zEi E ob y.1) 109) (cells b17 (obL ob) 66) (cells b10 (mfL m (ea, ec) (some ⟨bo, oo, none⟩, oc)) 39) (upTo d l c E m s1 s2 (k, xs, (a3, c3), (a4, c4))) (zDl l d ev V q cc n :: zBc d dk :: L)) from by first | exact hs.suffix 3 rfl | exact hs.suffix 4 rfl | exact hs.suffix 5 rfl | exact hs.suffix 6 rfl); refine zA6 ⟨hK, ?_⟩; refine zAe [8] ?_; refine ⟨⟨_, rfl, ?_⟩, trivial⟩
         refine zCm hs rfl 3 0 rfl rfl zDc zDc in109 rfl rfl (by rfl) rfl rfl (by show ((zC9 E m.obs xs).length + 1) * _ ≤ 140737488355328; rw [hpl]; omega) (by show (zC9 E m.obs xs).length + 1 ≤ _; rw [hpl]; omega) ?_; clear hs; intro a95 c95 w hs; simp only [zzs, zzz] at hs; clear hK; have hK := hs.suffix 4 rfl; refine zA6 ⟨hK, ?_⟩; refine zAe [17] ?_; refine ⟨⟨_, rfl, ?_⟩, trivial⟩; refine zAb rfl en49 (zCj hs (l := y.1) (fun w hs => hbr y hym w (hs.suffix 12 rfl)) (by have := hbl y hym; omega)) ?_; clear hs; rintro _ w ⟨a104, c104, rfl, hs⟩; rw [zAv] at hs ⊢
         have hone : ∀ u ∈ [bV (y.1, (a104, c104))], u.oneCell' = true := fun u hu => by simp only [List.mem_cons, List.not_mem_nil, or_false] at hu; subst hu; rfl
         clear hK; have hK := hs.suffix 5 rfl; refine zA6 ⟨hK, ?_⟩; refine zAe [18] ?_; refine ⟨⟨_, rfl, ?_⟩, trivial⟩; refine zB1 hs rfl ([bV (y.1, (a104, c104))]) zG1 zs22 rfl (fun u hu => (by simp only [List.mem_cons, List.not_mem_nil, or_false] at hu; subst hu; rfl)) rfl rfl rfl ?_; clear hs; intro b105 w hs
         try simp only [zzs, zzz] at hs
         clear hK; have hK := hs.suffix 6 rfl
         rotate_left
         refine zA rfl (zA7 zG1 rfl rfl (hs.cellAt 0 rfl rfl)) ?_; clear hK; have hK := (show Mem g w (newH (cells b19 (zEi E ob y.1) 109) (cells b17 (obL ob) 66) (cells b10 (mfL m (ea, ec) (some ⟨bo, oo, none⟩, oc)) 39) (upTo d l c E m s1 s2 (k, xs, (a3, c3), (a4, c4))) (zDl l d ev V q cc n :: zBc d dk :: L)) from by first | exact hs.suffix 3 rfl | exact hs.suffix 4 rfl | exact hs.suffix 5 rfl | exact hs.suffix 6 rfl); refine zA6 ⟨hK, ?_⟩; refine zAe [7] ?_; refine ⟨⟨_, rfl, ?_⟩, trivial⟩; refine zDb hs rfl (row := zEi E ob y.1) zDc zsPl rfl (fill_plan _ _ _ _ _) (by decide) (by decide) ?_; clear hs; intro b94 w hs; clear hK; have hK := hs.suffix 4 rfl; refine zA6 ⟨hK, ?_⟩
         refine zAe [8] ?_; refine ⟨⟨_, rfl, ?_⟩, trivial⟩; refine zCm hs rfl 3 0 rfl rfl zDc zDc in109 rfl rfl (by rfl) rfl rfl (by show ((zC9 E m.obs xs).length + 1) * _ ≤ 140737488355328; rw [hpl]; omega) (by show (zC9 E m.obs xs).length + 1 ≤ _; rw [hpl]; omega) ?_; clear hs; intro a95 c95 w hs; simp only [zzs, zzz] at hs; clear hK; have hK := hs.suffix 4 rfl; refine zA6 ⟨hK, ?_⟩; refine zAe [17] ?_; refine ⟨⟨_, rfl, ?_⟩, trivial⟩; refine zAb rfl en49 (zCj hs (l := y.1) (fun w hs => hbr y hym w (hs.suffix 12 rfl)) (by have := hbl y hym; omega)) ?_; clear hs; rintro _ w ⟨a104, c104, rfl, hs⟩; rw [zAv] at hs ⊢
         have hone : ∀ u ∈ [bV (y.1, (a104, c104))], u.oneCell' = true := fun u hu => by simp only [List.mem_cons, List.not_mem_nil, or_false] at hu; subst hu; rfl
         clear hK; have hK := hs.suffix 5 rfl; refine zA6 ⟨hK, ?_⟩; refine zAe [18] ?_; refine ⟨⟨_, rfl, ?_⟩, trivial⟩; refine zB1 hs rfl ([bV (y.1, (a104, c104))]) zG1 zs22 rfl (fun u hu => (by simp only [List.mem_cons, List.not_mem_nil, or_false] at hu; subst hu; rfl)) rfl rfl rfl ?_; clear hs; intro b105 w hs
         try simp only [zzs, zzz] at hs
         clear hK; have hK := hs.suffix 6 rfl
         rotate_left
         refine zDb hs rfl (row := zEi E ob y.1) zDc zsPl rfl (fill_plan _ _ _ _ _) (by decide) (by decide) ?_; clear hs; intro b94 w hs; clear hK; have hK := hs.suffix 4 rfl; refine zA6 ⟨hK, ?_⟩; refine zAe [5, 12] ?_; refine ⟨⟨_, rfl, ?_⟩, ⟨_, rfl, ?_⟩, trivial⟩; refine zA rfl (zA7 zDc rfl rfl (hs.cellAt 1 rfl rfl)) ?_; clear hK; have hK := (show Mem g w (newH (cells b19 (zEi E ob y.1) 109) (cells b17 (obL ob) 66) (cells b10 (mfL m (ea, ec) (some ⟨bo, oo, none⟩, oc)) 39) (upTo d l c E m s1 s2 (k, xs, (a3, c3), (a4, c4))) (zDl l d ev V q cc n :: zBc d dk :: L)) from by first | exact hs.suffix 3 rfl | exact hs.suffix 4 rfl | exact hs.suffix 5 rfl | exact hs.suffix 6 rfl)
         refine zA6 ⟨hK, ?_⟩; refine zAe [8, 12] ?_; refine ⟨⟨_, rfl, ?_⟩, ⟨_, rfl, ?_⟩, trivial⟩; refine zCm hs rfl 3 0 rfl rfl zDc zDc in109 rfl rfl (by rfl) rfl rfl (by show ((zC9 E m.obs xs).length + 1) * _ ≤ 140737488355328; rw [hpl]; omega) (by show (zC9 E m.obs xs).length + 1 ≤ _; rw [hpl]; omega) ?_; clear hs; intro a95 c95 w hs; simp only [zzs, zzz] at hs; clear hK; have hK := hs.suffix 4 rfl; refine zA6 ⟨hK, ?_⟩; refine zAe [12, 17] ?_; refine ⟨⟨_, rfl, ?_⟩, ⟨_, rfl, ?_⟩, trivial⟩; refine zA rfl (zA7 zG1 rfl rfl (hs.cellAt 1 rfl rfl)) ?_; clear hK
         have hK := (show Mem g w (newH (cells b19 (zEi E ob y.1) 109) (cells b17 (obL ob) 66) (cells b10 (mfL m (ea, ec) (some ⟨bo, oo, none⟩, oc)) 39) (upTo d l c E m s1 s2 (k, xs, (a3, c3), (a4, c4))) (zDl l d ev V q cc n :: zBc d dk :: L)) from by first | exact hs.suffix 3 rfl | exact hs.suffix 4 rfl | exact hs.suffix 5 rfl | exact hs.suffix 6 rfl); refine zA6 ⟨hK, ?_⟩; refine zAe [17] ?_; refine ⟨⟨_, rfl, ?_⟩, trivial⟩; refine zAb rfl en49 (zCj hs (l := y.1) (fun w hs => hbr y hym w (hs.suffix 12 rfl)) (by have := hbl y hym; omega)) ?_; clear hs; rintro _ w ⟨a104, c104, rfl, hs⟩; rw [zAv] at hs ⊢
         have hone : ∀ u ∈ [bV (y.1, (a104, c104))], u.oneCell' = true := fun u hu => by simp only [List.mem_cons, List.not_mem_nil, or_false] at hu; subst hu; rfl
         clear hK; have hK := hs.suffix 5 rfl; refine zA6 ⟨hK, ?_⟩; refine zAe [18] ?_; refine ⟨⟨_, rfl, ?_⟩, trivial⟩; refine zB1 hs rfl ([bV (y.1, (a104, c104))]) zG1 zs22 rfl (fun u hu => (by simp only [List.mem_cons, List.not_mem_nil, or_false] at hu; subst hu; rfl)) rfl rfl rfl ?_; clear hs; intro b105 w hs
         try simp only [zzs, zzz] at hs
         clear hK; have hK := hs.suffix 6 rfl
         rotate_left
         refine zAb rfl en49 (zCj hs (l := y.1) (fun w hs => hbr y hym w (hs.suffix 12 rfl)) (by have := hbl y hym; omega)) ?_; clear hs; rintro _ w ⟨a104, c104, rfl, hs⟩; rw [zAv] at hs ⊢
         have hone : ∀ u ∈ [bV (y.1, (a104, c104))], u.oneCell' = true := fun u hu => by simp only [List.mem_cons, List.not_mem_nil, or_false] at hu; subst hu; rfl
         clear hK; have hK := hs.suffix 5 rfl; refine zA6 ⟨hK, ?_⟩; refine zAe [12, 18] ?_; refine ⟨⟨_, rfl, ?_⟩, ⟨_, rfl, ?_⟩, trivial⟩; refine zA rfl (zA7 zG1 rfl rfl (hs.cellAt 2 rfl rfl)) ?_; clear hK; have hK := (show Mem g w (newH (cells b19 (zEi E ob y.1) 109) (cells b17 (obL ob) 66) (cells b10 (mfL m (ea, ec) (some ⟨bo, oo, none⟩, oc)) 39) (upTo d l c E m s1 s2 (k, xs, (a3, c3), (a4, c4))) (zDl l d ev V q cc n :: zBc d dk :: L)) from by first | exact hs.suffix 3 rfl | exact hs.suffix 4 rfl | exact hs.suffix 5 rfl | exact hs.suffix 6 rfl); refine zA6 ⟨hK, ?_⟩; refine zAe [18] ?_; refine ⟨⟨_, rfl, ?_⟩, trivial⟩
         refine zB1 hs rfl ([bV (y.1, (a104, c104))]) zG1 zs22 rfl (fun u hu => (by simp only [List.mem_cons, List.not_mem_nil, or_false] at hu; subst hu; rfl)) rfl rfl rfl ?_; clear hs; intro b105 w hs
         try simp only [zzs, zzz] at hs
         clear hK; have hK := hs.suffix 6 rfl
         rotate_left
         refine zB1 hs rfl ([bV (y.1, (a104, c104))]) zG1 zs22 rfl (fun u hu => (by simp only [List.mem_cons, List.not_mem_nil, or_false] at hu; subst hu; rfl)) rfl rfl rfl ?_; clear hs; intro b105 w hs
         try simp only [zzs, zzz] at hs
         clear hK; have hK := hs.suffix 6 rfl; refine zA6 ⟨hK, ?_⟩; refine zAe [12] ?_; refine ⟨⟨_, rfl, ?_⟩, trivial⟩; refine zA rfl (zA7 zG1 rfl rfl (hs.cellAt 3 rfl rfl)) ?_; clear hK; have hK := (show Mem g w (newH (cells b19 (zEi E ob y.1) 109) (cells b17 (obL ob) 66) (cells b10 (mfL m (ea, ec) (some ⟨bo, oo, none⟩, oc)) 39) (upTo d l c E m s1 s2 (k, xs, (a3, c3), (a4, c4))) (zDl l d ev V q cc n :: zBc d dk :: L)) from by first | exact hs.suffix 3 rfl | exact hs.suffix 4 rfl | exact hs.suffix 5 rfl | exact hs.suffix 6 rfl)
         rotate_left
         refine zA rfl (zA7 zG1 rfl rfl (hs.cellAt 1 rfl rfl)) ?_; clear hK; have hK := (show Mem g w (newH (cells b19 (zEi E ob y.1) 109) (cells b17 (obL ob) 66) (cells b10 (mfL m (ea, ec) (some ⟨bo, oo, none⟩, oc)) 39) (upTo d l c E m s1 s2 (k, xs, (a3, c3), (a4, c4))) (zDl l d ev V q cc n :: zBc d dk :: L)) from by first | exact hs.suffix 3 rfl | exact hs.suffix 4 rfl | exact hs.suffix 5 rfl | exact hs.suffix 6 rfl); refine zA6 ⟨hK, ?_⟩; refine zAe [8] ?_; refine ⟨⟨_, rfl, ?_⟩, trivial⟩
         refine zCm hs rfl 3 0 rfl rfl zDc zDc in109 rfl rfl (by rfl) rfl rfl (by show ((zC9 E m.obs xs).length + 1) * _ ≤ 140737488355328; rw [hpl]; omega) (by show (zC9 E m.obs xs).length + 1 ≤ _; rw [hpl]; omega) ?_; clear hs; intro a95 c95 w hs; simp only [zzs, zzz] at hs; clear hK; have hK := hs.suffix 4 rfl; refine zA6 ⟨hK, ?_⟩; refine zAe [17] ?_; refine ⟨⟨_, rfl, ?_⟩, trivial⟩; refine zAb rfl en49 (zCj hs (l := y.1) (fun w hs => hbr y hym w (hs.suffix 12 rfl)) (by have := hbl y hym; omega)) ?_; clear hs; rintro _ w ⟨a104, c104, rfl, hs⟩; rw [zAv] at hs ⊢
         have hone : ∀ u ∈ [bV (y.1, (a104, c104))], u.oneCell' = true := fun u hu => by simp only [List.mem_cons, List.not_mem_nil, or_false] at hu; subst hu; rfl
         clear hK; have hK := hs.suffix 5 rfl; refine zA6 ⟨hK, ?_⟩; refine zAe [18] ?_; refine ⟨⟨_, rfl, ?_⟩, trivial⟩; refine zB1 hs rfl ([bV (y.1, (a104, c104))]) zG1 zs22 rfl (fun u hu => (by simp only [List.mem_cons, List.not_mem_nil, or_false] at hu; subst hu; rfl)) rfl rfl rfl ?_; clear hs; intro b105 w hs
         try simp only [zzs, zzz] at hs
         clear hK; have hK := hs.suffix 6 rfl
         rotate_left
         refine zA rfl (zA7 zG1 rfl rfl (hs.cellAt 1 rfl rfl)) ?_; clear hK; have hK := (show Mem g w (newH (cells b19 (zEi E ob y.1) 109) (cells b17 (obL ob) 66) (cells b10 (mfL m (ea, ec) (some ⟨bo, oo, none⟩, oc)) 39) (upTo d l c E m s1 s2 (k, xs, (a3, c3), (a4, c4))) (zDl l d ev V q cc n :: zBc d dk :: L)) from by first | exact hs.suffix 3 rfl | exact hs.suffix 4 rfl | exact hs.suffix 5 rfl | exact hs.suffix 6 rfl); refine zA6 ⟨hK, ?_⟩; refine zAe [5] ?_; refine ⟨⟨_, rfl, ?_⟩, trivial⟩; refine zA rfl (zA7 zDc rfl rfl (hs.cellAt 1 rfl rfl)) ?_; clear hK
         have hK := (show Mem g w (newH (cells b19 (zEi E ob y.1) 109) (cells b17 (obL ob) 66) (cells b10 (mfL m (ea, ec) (some ⟨bo, oo, none⟩, oc)) 39) (upTo d l c E m s1 s2 (k, xs, (a3, c3), (a4, c4))) (zDl l d ev V q cc n :: zBc d dk :: L)) from by first | exact hs.suffix 3 rfl | exact hs.suffix 4 rfl | exact hs.suffix 5 rfl | exact hs.suffix 6 rfl); refine zA6 ⟨hK, ?_⟩; refine zAe [8] ?_; refine ⟨⟨_, rfl, ?_⟩, trivial⟩; refine zCm hs rfl 3 0 rfl rfl zDc zDc in109 rfl rfl (by rfl) rfl rfl (by show ((zC9 E m.obs xs).length + 1) * _ ≤ 140737488355328; rw [hpl]; omega) (by show (zC9 E m.obs xs).length + 1 ≤ _; rw [hpl]; omega) ?_; clear hs; intro a95 c95 w hs
         simp only [zzs, zzz] at hs; clear hK; have hK := hs.suffix 4 rfl; refine zA6 ⟨hK, ?_⟩; refine zAe [17] ?_; refine ⟨⟨_, rfl, ?_⟩, trivial⟩; refine zAb rfl en49 (zCj hs (l := y.1) (fun w hs => hbr y hym w (hs.suffix 12 rfl)) (by have := hbl y hym; omega)) ?_; clear hs; rintro _ w ⟨a104, c104, rfl, hs⟩; rw [zAv] at hs ⊢
         have hone : ∀ u ∈ [bV (y.1, (a104, c104))], u.oneCell' = true := fun u hu => by simp only [List.mem_cons, List.not_mem_nil, or_false] at hu; subst hu; rfl
         clear hK; have hK := hs.suffix 5 rfl; refine zA6 ⟨hK, ?_⟩; refine zAe [18] ?_; refine ⟨⟨_, rfl, ?_⟩, trivial⟩; refine zB1 hs rfl ([bV (y.1, (a104, c104))]) zG1 zs22 rfl (fun u hu => (by simp only [List.mem_cons, List.not_mem_nil, or_false] at hu; subst hu; rfl)) rfl rfl rfl ?_; clear hs; intro b105 w hs
         try simp only [zzs, zzz] at hs
         clear hK; have hK := hs.suffix 6 rfl
         rotate_left
         refine zA rfl (zA7 zG1 rfl rfl (hs.cellAt 0 rfl rfl)) ?_; clear hK; have hK := (show Mem g w (newH (cells b19 (zEi E ob y.1) 109) (cells b17 (obL ob) 66) (cells b10 (mfL m (ea, ec) (some ⟨bo, oo, none⟩, oc)) 39) (upTo d l c E m s1 s2 (k, xs, (a3, c3), (a4, c4))) (zDl l d ev V q cc n :: zBc d dk :: L)) from by first | exact hs.suffix 3 rfl | exact hs.suffix 4 rfl | exact hs.suffix 5 rfl | exact hs.suffix 6 rfl); refine zA6 ⟨hK, ?_⟩; refine zAe [5, 7] ?_; refine ⟨⟨_, rfl, ?_⟩, ⟨_, rfl, ?_⟩, trivial⟩; refine zA rfl (zA7 zDc rfl rfl (hs.cellAt 0 rfl rfl)) ?_; clear hK
         have hK := (show Mem g w (newH (cells b19 (zEi E ob y.1) 109) (cells b17 (obL ob) 66) (cells b10 (mfL m (ea, ec) (some ⟨bo, oo, none⟩, oc)) 39) (upTo d l c E m s1 s2 (k, xs, (a3, c3), (a4, c4))) (zDl l d ev V q cc n :: zBc d dk :: L)) from by first | exact hs.suffix 3 rfl | exact hs.suffix 4 rfl | exact hs.suffix 5 rfl | exact hs.suffix 6 rfl); refine zA6 ⟨hK, ?_⟩; refine zAe [7] ?_; refine ⟨⟨_, rfl, ?_⟩, trivial⟩; refine zDb hs rfl (row := zEi E ob y.1) zDc zsPl rfl (fill_plan _ _ _ _ _) (by decide) (by decide) ?_; clear hs; intro b94 w hs; clear hK; have hK := hs.suffix 4 rfl; refine zA6 ⟨hK, ?_⟩; refine zAe [8] ?_; refine ⟨⟨_, rfl, ?_⟩, trivial⟩
         refine zCm hs rfl 3 0 rfl rfl zDc zDc in109 rfl rfl (by rfl) rfl rfl (by show ((zC9 E m.obs xs).length + 1) * _ ≤ 140737488355328; rw [hpl]; omega) (by show (zC9 E m.obs xs).length + 1 ≤ _; rw [hpl]; omega) ?_; clear hs; intro a95 c95 w hs; simp only [zzs, zzz] at hs; clear hK; have hK := hs.suffix 4 rfl; refine zA6 ⟨hK, ?_⟩; refine zAe [17] ?_; refine ⟨⟨_, rfl, ?_⟩, trivial⟩; refine zAb rfl en49 (zCj hs (l := y.1) (fun w hs => hbr y hym w (hs.suffix 12 rfl)) (by have := hbl y hym; omega)) ?_; clear hs; rintro _ w ⟨a104, c104, rfl, hs⟩; rw [zAv] at hs ⊢
         have hone : ∀ u ∈ [bV (y.1, (a104, c104))], u.oneCell' = true := fun u hu => by simp only [List.mem_cons, List.not_mem_nil, or_false] at hu; subst hu; rfl
         clear hK; have hK := hs.suffix 5 rfl; refine zA6 ⟨hK, ?_⟩; refine zAe [18] ?_; refine ⟨⟨_, rfl, ?_⟩, trivial⟩; refine zB1 hs rfl ([bV (y.1, (a104, c104))]) zG1 zs22 rfl (fun u hu => (by simp only [List.mem_cons, List.not_mem_nil, or_false] at hu; subst hu; rfl)) rfl rfl rfl ?_; clear hs; intro b105 w hs
         try simp only [zzs, zzz] at hs
         clear hK; have hK := hs.suffix 6 rfl
         rotate_left
         refine zDb hs rfl (row := zEi E ob y.1) zDc zsPl rfl (fill_plan _ _ _ _ _) (by decide) (by decide) ?_; clear hs; intro b94 w hs; clear hK; have hK := hs.suffix 4 rfl; refine zA6 ⟨hK, ?_⟩; refine zAe [5] ?_; refine ⟨⟨_, rfl, ?_⟩, trivial⟩; refine zA rfl (zA7 zDc rfl rfl (hs.cellAt 1 rfl rfl)) ?_; clear hK; have hK := (show Mem g w (newH (cells b19 (zEi E ob y.1) 109) (cells b17 (obL ob) 66) (cells b10 (mfL m (ea, ec) (some ⟨bo, oo, none⟩, oc)) 39) (upTo d l c E m s1 s2 (k, xs, (a3, c3), (a4, c4))) (zDl l d ev V q cc n :: zBc d dk :: L)) from by first | exact hs.suffix 3 rfl | exact hs.suffix 4 rfl | exact hs.suffix 5 rfl | exact hs.suffix 6 rfl); refine zA6 ⟨hK, ?_⟩
         refine zAe [8] ?_; refine ⟨⟨_, rfl, ?_⟩, trivial⟩; refine zCm hs rfl 3 0 rfl rfl zDc zDc in109 rfl rfl (by rfl) rfl rfl (by show ((zC9 E m.obs xs).length + 1) * _ ≤ 140737488355328; rw [hpl]; omega) (by show (zC9 E m.obs xs).length + 1 ≤ _; rw [hpl]; omega) ?_; clear hs; intro a95 c95 w hs; simp only [zzs, zzz] at hs; clear hK; have hK := hs.suffix 4 rfl; refine zA6 ⟨hK, ?_⟩; refine zAe [17] ?_; refine ⟨⟨_, rfl, ?_⟩, trivial⟩; refine zAb rfl en49 (zCj hs (l := y.1) (fun w hs => hbr y hym w (hs.suffix 12 rfl)) (by have := hbl y hym; omega)) ?_; clear hs; rintro _ w ⟨a104, c104, rfl, hs⟩; rw [zAv] at hs ⊢
         have hone : ∀ u ∈ [bV (y.1, (a104, c104))], u.oneCell' = true := fun u hu => by simp only [List.mem_cons, List.not_mem_nil, or_false] at hu; subst hu; rfl
         clear hK; have hK := hs.suffix 5 rfl; refine zA6 ⟨hK, ?_⟩; refine zAe [18] ?_; refine ⟨⟨_, rfl, ?_⟩, trivial⟩; refine zB1 hs rfl ([bV (y.1, (a104, c104))]) zG1 zs22 rfl (fun u hu => (by simp only [List.mem_cons, List.not_mem_nil, or_false] at hu; subst hu; rfl)) rfl rfl rfl ?_; clear hs; intro b105 w hs
         try simp only [zzs, zzz] at hs
         clear hK; have hK := hs.suffix 6 rfl
         rotate_left
         all_goals
          refine zA6 ⟨hK, ?_⟩; refine zAe [19] ?_; refine ⟨⟨_, rfl, ?_⟩, trivial⟩; refine zD3 hs rfl 4 rfl zG1 in22 rfl rfl rfl (zCn (P := Tryz.prog) zG1 ((Rd.cells (n := 1) (cs := [bV (y.1, (a104, c104))]) 0 rfl rfl).seq hs) hone) (by show ((xs.map bV).length + 1) * _ ≤ 140737488355328; rw [List.length_map, hxl]; omega) (by show (xs.map bV).length + 1 ≤ _; rw [List.length_map, hxl]; omega) ?_; clear hs; intro a106 c106 w hs; simp only [zzs, zzz] at hs; clear hK; have hK := hs.suffix 6 rfl; refine zA6 ⟨hK, ?_⟩; refine zA5 20 rfl rfl (fun w hs => zA8 rfl) hK ?_; refine zA5 21 rfl rfl (fun w hs => zA4 (o' := 10) zCx rfl sz104 rfl rfl rfl) hK ?_
          refine zAe [22] ?_; refine ⟨⟨_, rfl, ?_⟩, trivial⟩; refine zB5 (v := .slice _ _ _) hs 3 rfl sz104 rfl rfl rfl rfl ?_; clear hs; intro w hs
          try simp only [zzs, zzz] at hs
          clear hK; have hK := hs.suffix 6 rfl; refine zA6 ⟨hK, ?_⟩; refine zA5 23 rfl rfl (fun w hs => zA8 rfl) hK ?_; refine zA5 24 rfl rfl (fun w hs => zA4 (o' := 9) zCx rfl sz62 rfl rfl rfl) hK ?_; refine zAe [25] ?_; refine ⟨⟨_, rfl, ?_⟩, trivial⟩; refine zB5 (v := .slice _ _ _) hs 3 rfl sz62 rfl rfl rfl rfl ?_; clear hs; intro w hs
          try simp only [zzs, zzz] at hs
          clear hK; have hK := hs.suffix 6 rfl; refine zA6 ⟨hK, ?_⟩; refine zAr (by kernel_rfl) ?_; clear hK; refine zA1 ?_; refine zA rfl (zAu rfl rfl rfl (inI (by omega) (by omega))) ?_; refine zA rfl (zA2 (v := .int .i64 _) rfl) ?_; refine zA6 ?_
          have hg : ¬ obG E ob y.1 ≠ 0 := by rw [obG, if_neg (by simp [hck]), hmk]; exact fun h => h rfl
          rw [if_neg hg] at hup; have h1 := (hs.arr [10, 1, 3, 8, 9, 4, 5, 11, 12, 13] 14 (by decide)).unstars; have h2 := Mem.stars (M := (xs ++ [(y.1, (a104, c104))]).map bC) (by rw [List.map_append, List.append_assoc]; exact h1)
          exact ⟨(k + 1, xs ++ [(y.1, (a104, c104))], (a106, c106), (a95, c95)), by simp only; omega, ⟨⟨by simp only; omega, by simp only [List.map_append, List.map_cons, List.map_nil, hxs]; rw [List.take_add_one, hyb]; rfl, hup⟩, Mem.moreUp (b3 := (a106, c106)) (b4 := (a95, c95)) (n3 := (xs.map bV).length + 1) (n4 := (zC9 E m.obs xs).length + 1) (by simp) (by simp; omega) (plans_more (by rw [hxl]; exact hob2)) (R3 := xs.map bV ++ [bV (y.1, (a104, c104))]) (by rw [List.map_append]; rfl) h2⟩, ⟨rfl, trivial⟩, by repeat (first | exact Out.mix _ _ _ | refine Out.updo rfl ?_ | refine Out.upd rfl ?_ | refine Out.mixIn rfl ?_)⟩
       ·
        intro h68; have g68 := of_decide_eq_false h68
        have hck : obCk ob y.1 ≠ 0 := by simpa using h68
        refine zAd ?_; refine zA3 ?_; refine zA3 (zA1 ?_); refine zA rfl (zA2 (v := zAh ad _) rfl) ?_; refine zA rfl (zAx (ad := ad) rfl) ?_; refine zA6 ?_; refine zB6 rfl ((by simpa using hck)) ?_; refine zA3 (zA1 ?_); refine zA rfl (zA2 (v := .int .i64 _) rfl) ?_; refine zA rfl (zA2 (v := zAh ad _) rfl) ?_; refine zA rfl (zC0 [.int .i64 (k : Nat), zAh ad (obCk ob y.1)] uz114 ze114 pl114 rfl (at_one _ _) rfl rfl) ?_; refine zBh (v := .agg _) hs rfl rfl ?_; clear hs; intro b85 w hs
        try simp only [zzs, zzz] at hs
        refine zA rfl (run_mkI uz112 rfl) ?_; refine zA rfl (zA0 (v := .pointer none) rfl) ?_; refine zA rfl (zA0 (v := .iface _ (.pointer (some _))) rfl) ?_; refine zA6 ?_; refine zAc ?_; refine zDz (v := .pointer none) (v2 := .iface _ (.pointer (some _))) rfl rfl rfl ?_
        have hg : obG E ob y.1 = obCk ob y.1 := by rw [obG, if_pos hck]
        have hF : upF E m (bl.map (·.1)) = (obCk ob y.1, some k) := by rw [upF, if_neg (by omega), if_neg (by simpa using h0), if_neg (by rw [hb0]; omega), hup, hg, if_pos hck]
        refine ⟨_, rfl, Or.inl ?_⟩; rw [hF]; exact ⟨hck, b85, rfl, hs.arr [0, 10, 11] 12 (by decide)⟩
      ·
       intro h57; have g57 := of_decide_eq_false h57
       have hke : k = m.obs.length := by omega
       have hF0 : upF E m (bl.map (·.1)) = (0, none) := by rw [upF, if_neg (by omega), if_neg (by simpa using h0), if_neg (by rw [hb0]; omega), hup, hke, List.drop_length]; simp [upG]
       have hxl : xs.length = k := by have := congrArg List.length hxs; simp only [List.length_map, List.length_take] at this; omega
       have hxs2 : xs.map (·.1) = bl.map (·.1) := by rw [hxs, List.take_of_length_le (by rw [hb0]; omega)]
       refine zBp rfl ?_; refine zA3 ?_; refine zAp zBk hs ?_; intro w tr hK; replace hs := tr _ hs; clear tr; refine zA5 0 rfl rfl (fun w hs => zA2 (v := .pointer (some _)) rfl) hK ?_; refine zA5 2 rfl rfl (fun w hs => zA4 (o' := 0) zCb rfl sz3 rfl rfl rfl) hK ?_; refine zA5 3 rfl rfl (fun w hs => zA7 uz3 rfl rfl (hs.cellAt 6 rfl rfl)) hK ?_; refine zAe [1] ?_; refine ⟨⟨_, rfl, ?_⟩, trivial⟩; refine zAb rfl en19 (zG4 (hs.arr [7, 0, 1, 2, 3, 4, 5, 6, 8] 9 (by decide))) ?_; clear hs; rintro _ w ⟨v113, rfl, hs⟩; clear hK; have hK := hs.arr [2, 3, 4, 5, 6, 7, 8, 1, 9] 10 (by decide); refine zA6 ⟨hK, ?_⟩; refine zAe [4] ?_; refine ⟨⟨_, rfl, ?_⟩, trivial⟩
       refine zAb rfl en20 (zFd hs m.id) ?_; clear hs; rintro _ w ⟨rfl, hs⟩; clear hK; have hK := hs.arr [2, 3, 4, 5, 6, 7, 8, 1, 9] 10 (by decide); refine zA6 ⟨hK, ?_⟩; refine zA5 5 rfl rfl (fun w hs => zA0 (v := .int .i64 _) rfl) hK ?_; refine zAr (by kernel_rfl) ?_; clear hK; replace hs : Mem g w (ucO b52 (upTo d l c E m s1 s2 (k, xs, (a3, c3), (a4, c4))) (m.id, 0, 0, 0) false (cells b10 (mfL m (ea, ec) (oa, oc)) 39 :: zDl l d ev V q cc n :: zBc d dk :: L)) := hs.arr [2, 3, 4, 5, 6, 7, 8, 1, 9] 10 (by decide); refine zA3 ?_; refine zA3 (zA1 ?_); refine zA rfl (zA2 (v := .int .i64 _) rfl) ?_; refine zA rfl (zCw rfl rfl) ?_; refine zA6 ?_; refine zB rfl ?_ ?_
       ·
        intro h118; have g118 := of_decide_eq_true h118; refine zA3 ?_; refine zAp zBk hs ?_; intro w tr hK; replace hs := tr _ hs; clear tr; refine zA5 0 rfl rfl (fun w hs => zA7 zCe rfl rfl (hE.cellW hs 113 (by decide) rfl)) hK ?_; refine zA5 1 rfl rfl (fun w hs => zA0 (v := .pointer none) rfl) hK ?_; refine zA5 2 rfl rfl (fun w hs => zA0 (v := zAh ad _) rfl) hK ?_; refine zAr (by kernel_rfl) ?_; clear hK; refine zAc ?_; refine zDz (v := .pointer none) (v2 := zAh ad _) rfl rfl rfl ?_; exact ⟨_, rfl, Or.inr (Or.inl ⟨by rw [hF0], g118, rfl, hs.suffix 7 rfl⟩)⟩
       ·
        intro h118; have g118 := of_decide_eq_false h118; refine zAd ?_; refine zA3 (zA1 ?_); refine zA rfl (zA2 (v := .pointer (some _)) rfl) ?_; refine zAb rfl en50 (jread_sl hE.uJ (hs.arr [8, 0, 1, 2, 3, 4, 5, 6, 7] 9 (by decide)) hj) ?_; clear hs; rintro _ w ⟨rfl, hs⟩; refine zA rfl (zA2 (v := .tuple _) rfl) ?_; refine zA rfl (zAa (v := .agg _) rfl rfl) ?_; refine zA rfl (zAa (v := .bool _) rfl rfl) ?_; refine zA rfl (zAa (v := zAh ad _) rfl rfl) ?_; refine zBn hs rfl ze103 ?_; clear hs; intro b21 w hs
        try simp only [zzs, zzz] at hs
        refine zAn hs 0 rfl rfl rfl zDs rfl rfl ?_; clear hs; intro w hs
        try simp only [zzs, zzz] at hs
        refine zA rfl (zA0 (v := .bool _) rfl) ?_; refine zA rfl (zA0 (v := zAh ad _) rfl) ?_; refine zA6 ?_; replace hs : Mem g w (cells b21 (s4V (z1, z2, z3, z4)) 103 :: ucO b52 (upTo d l c E m s1 s2 (k, xs, (a3, c3), (a4, c4))) (m.id, 0, 0, 0) false (cells b10 (mfL m (ea, ec) (oa, oc)) 39 :: zDl l d ev V q cc n :: zBc d dk :: L)) := hs.arr [0, 2, 3, 4, 5, 6, 7, 8, 9, 1] 10 (by decide); refine zA3 ?_; refine zA3 (zA1 ?_); refine zA rfl (zA2 (v := zAh ad _) rfl) ?_; refine zA rfl (zAx (ad := ad) rfl) ?_; refine zA6 ?_; refine zB4 rfl (rfl) ?_; refine zAd ?_; refine zA3 ?_; refine zA3 (zA1 ?_); refine zA rfl (zA2 (v := .bool _) rfl) ?_; refine zA rfl (zA2 (v := .bool _) rfl) ?_
        refine zB0 (t := _) (d := 130) rfl ?_ ?_
        ·
         intro h124; refine zAi rfl rfl h124 ?_; refine zA rfl (zA4 (o' := 0) zCy rfl sz3 rfl rfl rfl) ?_; refine zAi rfl rfl h124 ?_; refine zA rfl (zA7 uz3 rfl rfl (hs.cellAt 0 rfl rfl)) ?_; refine zAi rfl rfl h124 ?_; refine zA rfl (zA4 (o' := 0) zCb rfl sz3 rfl rfl rfl) ?_; refine zAi rfl rfl h124 ?_; refine zA rfl (zA7 uz3 rfl rfl (hs.cellAt 7 rfl rfl)) ?_; refine zAi rfl rfl h124 ?_; refine zA rfl (zBo rfl rfl) ?_; refine zA rfl (zAk (v := .bool _) rfl h124 rfl) ?_; refine zA rfl (zA2 (v := .bool _) rfl) ?_; refine zB0 (t := _) (d := 137) rfl ?_ ?_
         ·
          intro h135; have g135 := of_decide_eq_true h135; refine zAi rfl rfl h135 ?_; refine zA rfl (zA2 (v := .int .i64 _) rfl) ?_; refine zAi rfl rfl h135 ?_; refine zA rfl (zBo rfl rfl) ?_; refine zA rfl (zAk (v := .bool _) rfl h135 rfl) ?_; refine zA rfl (zA2 (v := .bool _) rfl) ?_; refine zB0 (t := _) (d := 141) rfl ?_ ?_
          ·
           intro h139; have g139 := of_decide_eq_true h139; refine zAi rfl rfl h139 ?_; refine zA rfl (zA2 (v := .pointer (some _)) rfl) ?_; refine zAi rfl rfl h139 ?_; refine zA rfl (zBa hs 0 rfl zCy zDs rfl) ?_; refine zAi rfl rfl h139 ?_; refine zAb rfl en51 (fits_sl (t := (upTo d l c E m s1 s2 (k, xs, (a3, c3), (a4, c4)))) (z := (z1, z2, z3, z4)) (hs.arr [1, 2, 3, 4, 5, 6, 0, 7, 8, 9] 10 (by decide)) (show m.obs.length = xs.length by omega) hz) ?_; clear hs; rintro _ w ⟨rfl, hs⟩; refine zA rfl (zAk (v := .bool _) rfl h139 rfl) ?_; refine zA6 ?_; refine zB rfl ?_ ?_
           ·
            intro h144; refine zA1 ?_; refine zA rfl (zA2 (v := .pointer (some _)) rfl) ?_; refine zA rfl (zBa hs 6 rfl zCy zDs rfl) ?_; refine zA rfl (zA8 rfl) ?_; refine zA rfl (zA4 (o' := 11) zCx rfl zDs rfl rfl rfl) ?_; refine lw_storeMid hs 0 (upL (upTo d l c E m s1 s2 (k, xs, (a3, c3), (a4, c4))) (z1, z2, z3, z4) false) rfl rfl rfl zDs rfl rfl rfl ?_; clear hs; intro w hs
            try simp only [zzs, zzz] at hs
            refine zA6 (zA3 (zA1 ?_)); refine zA rfl (zA2 (v := .pointer (some _)) rfl) ?_; refine zA rfl (zA0 (v := .pointer (some _)) rfl) ?_; refine zA rfl (zA0 (v := .nilIface) rfl) ?_; refine zA6 ?_; refine zAc ?_; refine zDz (v := .pointer (some _)) (v2 := .nilIface) rfl rfl rfl ?_; exact ⟨_, rfl, Or.inr (Or.inr ⟨by rw [hF0], by omega, b52, s1, s2, xs, (a3, c3), (a4, c4), rfl, hxs2, by rw [if_pos ⟨h124, g135, g139, by rw [← hxs2]; exact h144⟩]; exact Mem.closeUp (hs.arr [0, 1, 2, 3, 4, 5, 8, 9] 10 (by decide))⟩)⟩
           ·
            intro h144; refine zAd ?_; refine zA3 (zA1 ?_); refine zA rfl (zA2 (v := .pointer (some _)) rfl) ?_; refine zA rfl (zA0 (v := .pointer (some _)) rfl) ?_; refine zA rfl (zA0 (v := .nilIface) rfl) ?_; refine zA6 ?_; refine zAc ?_; refine zDz (v := .pointer (some _)) (v2 := .nilIface) rfl rfl rfl ?_; exact ⟨_, rfl, Or.inr (Or.inr ⟨by rw [hF0], by omega, b52, s1, s2, xs, (a3, c3), (a4, c4), rfl, hxs2, by rw [if_neg (fun h => absurd ((show fitsB E (xs.map (·.1)) (z1, z2, z3, z4) = true from by rw [hxs2]; exact h.2.2.2).symm.trans h144) (by decide))]; exact Mem.closeUp (hs.arr [0, 1, 2, 3, 4, 5, 8, 9] 10 (by decide))⟩)⟩
          ·
           intro h139; have g139 := of_decide_eq_false h139; refine zA9 rfl rfl rfl h139 ?_; refine zA9 rfl rfl rfl h139 ?_; refine zA9 rfl rfl rfl h139 ?_; refine zA rfl (zAg (v := .bool _) rfl h139 rfl) ?_; refine zA6 ?_; refine zB4 rfl rfl ?_; refine zAd ?_; refine zA3 (zA1 ?_); refine zA rfl (zA2 (v := .pointer (some _)) rfl) ?_; refine zA rfl (zA0 (v := .pointer (some _)) rfl) ?_; refine zA rfl (zA0 (v := .nilIface) rfl) ?_; refine zA6 ?_; refine zAc ?_; refine zDz (v := .pointer (some _)) (v2 := .nilIface) rfl rfl rfl ?_
           exact ⟨_, rfl, Or.inr (Or.inr ⟨by rw [hF0], by omega, b52, s1, s2, xs, (a3, c3), (a4, c4), rfl, hxs2, by rw [if_neg (fun h => g139 h.2.2.1)]; exact Mem.closeUp (hs.arr [1, 2, 3, 4, 5, 6, 8, 9] 10 (by decide))⟩)⟩
         ·
          intro h135; have g135 := of_decide_eq_false h135; refine zA9 rfl rfl rfl h135 ?_; refine zA9 rfl rfl rfl h135 ?_; refine zA rfl (zAg (v := .bool _) rfl h135 rfl) ?_; refine zA rfl (zA2 (v := .bool _) rfl) ?_; refine zA9 rfl rfl rfl rfl ?_; refine zA9 rfl rfl rfl rfl ?_; refine zA9 rfl rfl rfl rfl ?_; refine zA rfl (zAg (v := .bool _) rfl rfl rfl) ?_; refine zA6 ?_; refine zB4 rfl rfl ?_; refine zAd ?_; refine zA3 (zA1 ?_); refine zA rfl (zA2 (v := .pointer (some _)) rfl) ?_; refine zA rfl (zA0 (v := .pointer (some _)) rfl) ?_; refine zA rfl (zA0 (v := .nilIface) rfl) ?_; refine zA6 ?_; refine zAc ?_; refine zDz (v := .pointer (some _)) (v2 := .nilIface) rfl rfl rfl ?_
          exact ⟨_, rfl, Or.inr (Or.inr ⟨by rw [hF0], by omega, b52, s1, s2, xs, (a3, c3), (a4, c4), rfl, hxs2, by rw [if_neg (fun h => g135 h.2.1)]; exact Mem.closeUp (hs.arr [1, 2, 3, 4, 5, 6, 8, 9] 10 (by decide))⟩)⟩
        ·
         intro h124; refine zA9 rfl rfl rfl h124 ?_; refine zA9 rfl rfl rfl h124 ?_; refine zA9 rfl rfl rfl h124 ?_; refine zA9 rfl rfl rfl h124 ?_; refine zA9 rfl rfl rfl h124 ?_; refine zA rfl (zAg (v := .bool _) rfl h124 rfl) ?_; refine zA rfl (zA2 (v := .bool _) rfl) ?_; refine zA9 rfl rfl rfl rfl ?_; refine zA9 rfl rfl rfl rfl ?_; refine zA rfl (zAg (v := .bool _) rfl rfl rfl) ?_; refine zA rfl (zA2 (v := .bool _) rfl) ?_; refine zA9 rfl rfl rfl rfl ?_; refine zA9 rfl rfl rfl rfl ?_; refine zA9 rfl rfl rfl rfl ?_; refine zA rfl (zAg (v := .bool _) rfl rfl rfl) ?_; refine zA6 ?_; refine zB4 rfl rfl ?_; refine zAd ?_; refine zA3 (zA1 ?_)
         refine zA rfl (zA2 (v := .pointer (some _)) rfl) ?_; refine zA rfl (zA0 (v := .pointer (some _)) rfl) ?_; refine zA rfl (zA0 (v := .nilIface) rfl) ?_; refine zA6 ?_; refine zAc ?_; refine zDz (v := .pointer (some _)) (v2 := .nilIface) rfl rfl rfl ?_; exact ⟨_, rfl, Or.inr (Or.inr ⟨by rw [hF0], by omega, b52, s1, s2, xs, (a3, c3), (a4, c4), rfl, hxs2, by rw [if_neg (fun h => by have h2 : is = false := h124; rw [h2] at h; exact absurd h.1 (by decide))]; exact Mem.closeUp (hs.arr [1, 2, 3, 4, 5, 6, 8, 9] 10 (by decide))⟩)⟩
end
section
variable {P : Program} {n : Nat} {N R : Post} {B : List (Nat × Post)} {ρ : Env} {w : World}
theorem cw_mid {c1 c2 : Code} {X : Type} (W : List Nat) (slots : X → List (Nat × Value)) (I : X → World → Prop) (h1 : cw P n c1 (fun ρ' w' => ∃ x, I x w' ∧ AllS ρ' (slots x) ∧ Out W ρ' ρ) B R ρ w)
    (h2 : ∀ x ξ w, I x w → cw P n c2 N B R (updL (mix W ξ ρ) (slots x)) w) : cw P n (.seq c1 c2) N B R ρ w :=
  cw_join _ h1 fun ρ' w' ⟨x, hI, hS, hO⟩ => by
    have := h2 x ρ' w' hI
    rwa [← funext (env_head hO _ hS)] at this
end
section
open Go.RowKit
attribute [local irreducible] zAh eV
variable {g w : World} {L M : List HP} {ad : Nat → Addr} {p d pv ev : Nat} {dk : Dk} {f : ByteArray → Option (List UInt8)} {V U : Vw} {q r c n : Nat} {b mb : List UInt8}
def SnapOut (f : ByteArray → Option (List UInt8)) (dk : Dk) (q : Nat) (V : Vw) (k : Nat) (dk2 : Dk) : Prop :=
  dk2.room = dk.room ∧ dk2.calls ≤ dk.calls + 7 ∧ (k = 0 ∧ dk2.down = false ∧ (dk.armed = 0 → dk2.armed = 0) ∧ LgI (zEb (zEb f snN (zBx (snapB q V))) mtN []) dk2 ∨
    k = 110 ∧ dk2.down = true ∧ dk.armed ≠ 0 ∧ ∀ picks, LgI f (dk2.crash picks) ∨ LgI (zEb f snN (zBx (snapB q V))) (dk2.crash picks))
end
section
open Go.RowKit
attribute [local irreducible] zAh eV
variable {g w : World} {L M : List HP} {ad : Nat → Addr} {p d pv ev : Nat} {dk : Dk} {f : ByteArray → Option (List UInt8)} {V U : Vw} {q r c n : Nat} {b mb : List UInt8}
def AppOut (f : ByteArray → Option (List UInt8)) (dk : Dk) (ev : Nat) (V1 : Vw) (q c : Nat) (mb fr : List UInt8) (k : Nat) (dk2 : Dk) (V' : Vw) (q' c' n' : Nat) : Prop :=
  dk2.room = dk.room ∧ dk2.calls ≤ dk.calls + 9 ∧
  (k = 0 ∧ dk2.down = false ∧ (dk.armed = 0 → dk2.armed = 0) ∧ V' = V1 ∧ q' = q + 1 ∧ (c + 1 < ev ∧ c' = c + 1 ∧ n' = mb.length + fr.length ∧ LgI (zEb f mtN (mb ++ fr)) dk2 ∨ ev ≤ c + 1 ∧ c' = 0 ∧ n' = 0 ∧ LgI (zEb (zEb (zEb f mtN (mb ++ fr)) snN (zBx (snapB (q + 1) V1))) mtN []) dk2) ∨
   k = 0 ∧ dk2.down = true ∧ dk.armed ≠ 0 ∧ (∀ picks, LgI (zEb f mtN (mb ++ fr)) (dk2.crash picks) ∨ LgI (zEb (zEb f mtN (mb ++ fr)) snN (zBx (snapB (q + 1) V1))) (dk2.crash picks)) ∨
   k = 110 ∧ dk2.down = true ∧ dk.armed ≠ 0 ∧ ∀ picks, ∃ j, LgI (zEb f mtN (mb ++ fr.take j)) (dk2.crash picks))
end
section
open Go.RowKit
attribute [local irreducible] zAh eV
variable {g w : World} {L M : List HP} {ad : Nat → Addr}
def kdz (z : Int) : Nat := (IntKind.i64.wrap (z.tdiv 4) % ((4 : Nat) : Int)).toNat + 1
def idz (z : Int) : Nat := (z % ((4 : Nat) : Int)).toNat + 4 * (IntKind.i64.wrap (z.tdiv 16) % ((3 : Nat) : Int)).toNat
def enz (z : Int) : En := ((kdz z : Nat), oneM (idz z) (10 * idz z))
end
section
open Go.RowKit
attribute [local irreducible] zAh eV
variable {g w : World} {L M : List HP} {ad : Nat → Addr} {p d pv ev : Nat} {dk : Dk} {f : ByteArray → Option (List UInt8)} {V V0 U : Vw} {q q0 r c n : Nat} {es : List En}
structure LgSt (f : ByteArray → Option (List UInt8)) (V0 : Vw) (q0 : Nat) (es : List En) (V : Vw) : Prop where
  snap : Snp f V0 q0
  file : f mtN = some (frames q0 es)
  run : runs V0 es = some V
  ok0 : V0.ok
  sum0 : V0.sums
  len0 : V0.length ≤ q0
  ens : ∀ e ∈ es, EnOk e
theorem Snp.upd (h : Snp f V q) (v : List UInt8) : Snp (zEb f mtN v) V q := by
  unfold Snp at *
  rw [zFy _ _ (Ne.symm mt_sn)]; exact h
theorem LgSt.app (h : LgSt f V0 q0 es V) {e : En} (hE : EnOk e) (hap : (V.apply e.1 e.2).1 = (0, none)) : LgSt (zEb f mtN (frames q0 es ++ frame (q0 + es.length + 1) e)) V0 q0 (es ++ [e]) (V.apply e.1 e.2).2 :=
  ⟨h.snap.upd _, by rw [updF_same, frames_snoc], runs_snoc h.run hap, h.ok0, h.sum0, h.len0, fun x hx => by
    rcases List.mem_append.1 hx with hx | hx
    · exact h.ens x hx
    · simp only [List.mem_cons, List.not_mem_nil, or_false] at hx; subst hx; exact hE⟩
def LgW (f : ByteArray → Option (List UInt8)) (q c n : Nat) (V : Vw) : Prop := ∃ V0 q0 es, LgSt f V0 q0 es V ∧ q = q0 + es.length ∧ c = es.length ∧ n = (frames q0 es).length
theorem LgW.zero : LgW (zEb (fun _ => none) mtN []) 0 0 0 [] := ⟨[], 0, [], ⟨.inl ⟨by rw [zFy _ _ (Ne.symm mt_sn)], rfl, rfl⟩, by rw [updF_same]; rfl, rfl, Vw.ok_nil, (fun x hx => by cases hx), Nat.le_refl _, (fun e he => by cases he)⟩, rfl, rfl, rfl⟩
def AppU (f : ByteArray → Option (List UInt8)) (dk : Dk) (ev : Nat) (V : Vw) (q c n : Nat) (k : Int) (x : Mf) (f' : ByteArray → Option (List UInt8)) (dk2 : Dk) (q' c' n' : Nat) : Prop :=
  LgI f' dk2 ∧ dk2.armed = 0 ∧ dk2.room = dk.room ∧ dk2.calls ≤ dk.calls + 9 ∧ LgW f' q' c' n' (V.apply k x).2 ∧
  ((V.apply k x).1.1 ≠ 0 ∧ q' = q ∧ c' = c ∧ n' = n ∧ f' = f ∧ dk2 = dk ∨ (V.apply k x).1 = (0, none) ∧ q' = q + 1 ∧ (c + 1 < ev ∧ c' = c + 1 ∧ n' = n + (frame (q + 1) (k, x)).length ∨ ev ≤ c + 1 ∧ c' = 0 ∧ n' = 0))
structure LgK (f : ByteArray → Option (List UInt8)) (dk : Dk) (q c n : Nat) (V : Vw) (K B : Nat) : Prop where
  w : LgW f q c n V
  I : LgI f dk
  a : dk.armed = 0
  r : dk.room = 1048576
  q : q ≤ K
  cl : dk.calls ≤ B
theorem LgK.mono {K B K2 B2 : Nat} (h : LgK f dk q c n V K B) (h1 : K ≤ K2) (h2 : B ≤ B2) : LgK f dk q c n V K2 B2 := ⟨h.w, h.I, h.a, h.r, Nat.le_trans h.q h1, Nat.le_trans h.cl h2⟩
theorem LgK.app {K B : Nat} (h : LgK f dk q c n V K B) {k : Int} {x : Mf} {f' : ByteArray → Option (List UInt8)} {dk2 : Dk} {q' c' n' : Nat} (hU : AppU f dk ev V q c n k x f' dk2 q' c' n') : LgK f' dk2 q' c' n' (V.apply k x).2 (K + 1) (B + 9) := by
  obtain ⟨h1, h2, h3, h4, h5, h6⟩ := hU; have hq := h.q; have hc := h.cl; refine ⟨h5, h1, h2, h3.trans h.r, ?_, by omega⟩
  rcases h6 with ⟨_, h7, _⟩ | ⟨_, h7, _⟩
  · omega
  · omega
theorem LgK.next {K B : Nat} (h : LgK f dk q c n V K B) {dk2 : Dk} (h1 : dk2.armed = 0) (h2 : dk2.room = dk.room) (h3 : dk2.calls ≤ dk.calls + 4) (h4 : LgI f dk2) : LgK f dk2 q c n V K (B + 4) := ⟨h.w, h4, h1, h2.trans h.r, h.q, by have := h.cl; omega⟩
theorem LgK.zero {dk : Dk} (h1 : dk.armed = 0) (h2 : dk.room = 1048576) (h3 : dk.calls ≤ 4) (h4 : LgI (zEb (fun _ => none) mtN []) dk) : LgK (zEb (fun _ => none) mtN []) dk 0 0 0 [] 0 4 := ⟨LgW.zero, h4, h1, h2, Nat.le_refl _, h3⟩
end
section
open Go.RowKit
attribute [local irreducible] zAh
variable {g w : World} {L M : List HP} {ad : Nat → Addr}
theorem sentinel_sl (hA : ErrA ad g) (hs : Mem g w L) {c : Nat} (hc : c ∈ allCodes) : Calls Tryz.prog 103 #[zAh ad c] w (Ret fun v w' => v = .int .i64 c ∧ Mem g w' L) := by
  have h := sentinel_any (hA.atW hs) hs.size hc; rw [← zDt ad (hA.pos c hc)] at h; exact hs.calls h
def faultV (c : Int) (p : Bool) (q : Int) : Value := .agg #[.int .i64 c, .bool p, .int .i64 q]
theorem placed_sl (hs : Mem g w L) {c : Int} (hc : c ≠ 0) (q : Int) : Calls Tryz.prog 26 #[.int .i64 c, .int .i64 q] w (Ret fun v w' => v = faultV c true q ∧ Mem g w' L) := by
  refine zAf Tryz.func26 rfl rfl ?_
  skip
  refine zA3 (zA1 ?_); refine zBn hs rfl ze42 ?_; clear hs; intro b4 w hs
  try simp only [zzs, zzz] at hs
  refine zA6 ?_; refine zA3 ?_; refine zA3 (zA1 ?_); refine zA rfl (zA2 (v := .int .i64 _) rfl) ?_; refine zA rfl (zBo rfl rfl) ?_; refine zA6 ?_; refine zB4 rfl (decide_eq_false hc) ?_; refine zAd ?_; refine zA3 (zA1 ?_); refine zA rfl (zA2 (v := .int .i64 _) rfl) ?_; refine zA rfl (zA2 (v := .int .i64 _) rfl) ?_; refine zA rfl (zC0 ([.int .i64 c, .bool true, .int .i64 q]) uz42 ze42 pl42 rfl (by simp [Value.cells]) rfl rfl) ?_; refine zAn hs 0 rfl rfl rfl zE4 rfl rfl ?_; clear hs; intro w hs
  try simp only [zzs, zzz] at hs
  refine zA6 ?_; refine zAc ?_; refine resG [(.cell 4 42, .agg _)] rfl ⟨⟨_, rfl, zC2 hs 0 rfl uz42 zE4⟩, trivial⟩ ?_; exact ⟨_, rfl, rfl, hs.tail⟩
theorem fault0_sl (hA : ErrA ad g) (hs : Mem g w L) {c : Nat} (hc : c = 0 ∨ c ∈ allCodes) : Calls Tryz.prog 62 #[zAh ad c] w (Ret fun v w' => v = faultV c false 0 ∧ Mem g w' L) := by
  rcases hc with rfl | hc
  · rw [zAz]; exact hs.calls (fault_nil w)
  · have h := fault_err (hA.atW hs) hs.size hc
    rw [← zDt ad (hA.pos c hc)] at h; exact hs.calls h
theorem run_assertAt {ρ : Env} {dst : Option Tmp} {ty : TypeId} {pos : String} {aft : Array Edge} {x : Operand} {b : Nat} (hx : ev ρ x = .iface 112 (.pointer (some ⟨b, 0, none⟩))) : (execOp (ev ρ) ⟨dst, .typeAssert x 27 112 true, ty, pos, aft, none⟩).run Tryz.prog w = .ok (.value (.tuple #[.pointer (some ⟨b, 0, none⟩), .bool true])) w := by
  have h : ∀ (v : Value) (w : World), (Instr.typeAssert (.iface 112 v) 27 112 true).run Tryz.prog w = .ok (.tuple #[v, .bool true]) w := fun _ _ => by kernel_rfl
  simp only [execOp, hx, Sem.run_bind, h, Result.andThen_ok, Sem.run_pure]
theorem faultAt_sl (hA : ErrA ad g) {c : Nat} {z : Int} {b : Nat} (hs : Mem g w (cells b [.int .i64 z, zAh ad c] 114 :: L)) (hc : c ∈ allCodes) :
    Calls Tryz.prog 62 #[.iface 112 (.pointer (some ⟨b, 0, none⟩))] w (Ret fun v w' => v = faultV c true z ∧ Mem g w' (cells b [.int .i64 z, zAh ad c] 114 :: L)) := by
  have hc0 := hA.pos c hc; have he : eV ad 103 b = .iface 112 (.pointer (some ⟨b, 0, none⟩)) := eV_at (by decide) (by decide) b; refine zAf Tryz.func62 rfl rfl ?_
  skip
  refine zA3 (zA1 ?_); refine zBn hs rfl ze42 ?_; clear hs; intro b2 w hs
  try simp only [zzs, zzz] at hs
  refine zA6 ?_; refine zA3 ?_; refine zA3 (zA1 ?_); refine zA rfl (zA2 (v := .iface _ (.pointer (some _))) rfl) ?_; refine zA rfl (run_eqE (ad := ad) (c := 103) (eb := b) he.symm) ?_; refine zA6 ?_; refine zB4 rfl (rfl) ?_; refine zAd ?_; refine zA3 (zA1 ?_); refine zA rfl (zA2 (v := .iface _ (.pointer (some _))) rfl) ?_; refine zA rfl (run_assertAt rfl) ?_; refine zA rfl (zA2 (v := .tuple _) rfl) ?_; refine zA rfl (zAa (v := .pointer (some _)) rfl rfl) ?_; refine zA rfl (zAa (v := .bool _) rfl rfl) ?_; refine zA rfl (zA0 (v := .pointer (some _)) rfl) ?_; refine zA rfl (zA0 (v := .bool _) rfl) ?_; refine zA6 ?_; refine zA3 ?_; refine zA3 (zA1 ?_); refine zA rfl (zA2 (v := .bool _) rfl) ?_
  refine zA rfl (zBt rfl) ?_; refine zA6 ?_; refine zB4 rfl (zBj (rfl)) ?_; refine zAd ?_; refine zA3 ?_; refine zA3 (zA1 ?_); refine zA rfl (zA2 (v := .pointer (some _)) rfl) ?_; refine zA rfl (zD9 uz112 rfl rfl) ?_; refine zA rfl (zA2 (v := .bool _) rfl) ?_; refine zAi rfl rfl rfl ?_; refine zA rfl (zA2 (v := .pointer (some _)) rfl) ?_; refine zAi rfl rfl rfl ?_; refine zA rfl (zA8 rfl) ?_; refine zAi rfl rfl rfl ?_; refine zA rfl (zA4 (o' := 1) uz114 rfl sz27 rfl rfl rfl) ?_; refine zAi rfl rfl rfl ?_; refine zA rfl (zA7 zCe rfl rfl (hs.cellAt 1 rfl rfl)) ?_; refine zAi rfl rfl rfl ?_; refine zA rfl (zDe (ad := ad) rfl) ?_; refine zA rfl (zAg (v := .bool _) rfl rfl rfl) ?_; refine zA6 ?_
  refine zB4 rfl (decide_eq_false hc0) ?_; refine zAd ?_; refine zA3 ?_; refine zAp zBk hs.tail ?_; intro w tr hK; replace hs := tr _ hs; clear tr; refine zA5 0 rfl rfl (fun w hs => zA2 (v := .pointer (some _)) rfl) hK ?_; refine zA5 1 rfl rfl (fun w hs => zA8 rfl) hK ?_; refine zA5 2 rfl rfl (fun w hs => zA4 (o' := 1) uz114 rfl sz27 rfl rfl rfl) hK ?_; refine zA5 3 rfl rfl (fun w hs => zA7 zCe rfl rfl (hs.cellAt 0 rfl rfl)) hK ?_; refine zA5 5 rfl rfl (fun w hs => zA2 (v := .pointer (some _)) rfl) hK ?_; refine zA5 6 rfl rfl (fun w hs => zA8 rfl) hK ?_; refine zA5 7 rfl rfl (fun w hs => zA4 (o' := 0) uz114 rfl sz3 rfl rfl rfl) hK ?_
  refine zA5 8 rfl rfl (fun w hs => zA7 uz3 rfl rfl (hs.cellAt 0 rfl rfl)) hK ?_; refine zAe [4] ?_; refine ⟨⟨_, rfl, ?_⟩, trivial⟩; refine zAb rfl en103 (sentinel_sl hA hs hc) ?_; clear hs; rintro _ w ⟨rfl, hs⟩; clear hK; have hK := hs.tail; refine zA6 ⟨hK, ?_⟩; refine zAe [9] ?_; refine ⟨⟨_, rfl, ?_⟩, trivial⟩; refine zAb rfl en26 (placed_sl hs (c := c) (by omega) z) ?_; clear hs; rintro _ w ⟨rfl, hs⟩; clear hK; have hK := hs.tail; refine zA6 ⟨hK, ?_⟩; refine zAe [10] ?_; refine ⟨⟨_, rfl, ?_⟩, trivial⟩; refine zAn hs 0 rfl rfl rfl zE4 rfl rfl ?_; clear hs; intro w hs
  try simp only [zzs, zzz] at hs
  clear hK; have hK := hs.tail; refine zA6 ⟨hK, ?_⟩; refine zAr (by kernel_rfl) ?_; clear hK; refine zAc ?_; refine resG [(.cell 2 42, .agg _)] rfl ⟨⟨_, rfl, zC2 hs 0 rfl uz42 zE4⟩, trivial⟩ ?_; exact ⟨_, rfl, rfl, hs.tail⟩
end
section
open Go.RowKit
attribute [local irreducible] zAh eV
variable {g w : World} {L M : List HP} {ad : Nat → Addr} {eb : Nat}
def ffV (F : Flt) : Value := faultV F.1 F.2.isSome (((F.2.getD 0 : Nat)) : Int)
def FltA (F : Flt) : Prop := F = (0, none) ∨ F.1 ∈ allCodes
theorem faultF_sl (hA : ErrA ad g) {F : Flt} (hF : FltA F) (hs : Mem g w (flC ad F eb :: L)) : Calls Tryz.prog 62 #[flV ad F eb] w (Ret fun v w' => v = ffV F ∧ Mem g w' (flC ad F eb :: L)) := by
  obtain ⟨c, z⟩ := F
  cases z with
  | none => exact fault0_sl hA hs (hF.imp (fun h => congrArg Prod.fst h) id)
  | some z =>
    have hc : c ∈ allCodes := by
      rcases hF with h | h
      · cases h
      · exact h
    exact faultAt_sl hA hs hc
theorem sameFt_sl (hA : ErrA ad g) {F : Flt} (hF : FltA F) (hs : Mem g w (flC ad F eb :: L)) : Calls Tryz.prog 27 #[flV ad F eb, ffV F] w (Ret fun v w' => v = .bool true ∧ Mem g w' (flC ad F eb :: L)) := by
  unfold ffV
  refine zAf Tryz.func27 rfl rfl ?_
  skip
  refine zA3 (zA1 ?_); refine zBh (v := .agg _) hs rfl rfl ?_; clear hs; intro b3 w hs
  try simp only [zzs, zzz] at hs
  refine zA rfl (zA0 (v := .bool _) rfl) ?_; refine zA6 ?_; refine zA3 ?_; refine zAp zBk hs ?_; intro w tr hK; replace hs := tr _ hs; clear tr; refine zA5 0 rfl rfl (fun w hs => zA2 (v := flV ad _ _) rfl) hK ?_; refine zA5 2 rfl rfl (fun w hs => zBa hs 0 rfl uz42 zE4 rfl) hK ?_; refine zAe [1] ?_; refine ⟨⟨_, rfl, ?_⟩, trivial⟩; refine zAb rfl en62 (faultF_sl hA hF (hs.arr [1, 0] 2 (by decide))) ?_; clear hs; rintro _ w ⟨rfl, hs⟩; replace hs := hs.arr [1, 0] 2 (by decide); clear hK; have hK := hs; refine zA6 ⟨hK, ?_⟩; refine zAe [3] ?_; refine ⟨⟨_, rfl, ?_⟩, trivial⟩; refine zAb rfl en61 (hs.calls (sameFault_any _ _ _ _ _ _ w)) ?_; clear hs; rintro _ w ⟨rfl, hs⟩; clear hK; have hK := hs
  refine zA6 ⟨hK, ?_⟩; refine zA5 4 rfl rfl (fun w hs => zA0 (v := .bool _) rfl) hK ?_; refine zAr (by kernel_rfl) ?_; clear hK; refine zAc ?_; refine zBd (v := .bool _) rfl rfl ?_; exact ⟨_, rfl, zD6 (by simp), hs.tail⟩
end
section
open Go.RowKit Go.Deep
def MfIn (w : World) (m : Mf) (e o : SA) : Prop := zGa w 2 (.slice e.1 m.eps.length e.2) (m.eps.map prL) ∧ zGa w 3 (.slice o.1 m.obs.length o.2) (m.obs.map obL) ∧ ∀ y ∈ m.obs, y.2.2 < 4294967296
theorem wf_u32 {n : Int} (h : (Lit.int .u32 n).wf = true) : 0 ≤ n ∧ n < 4294967296 := by
  simp only [Lit.wf, Bool.and_eq_true, decide_eq_true_eq, IntKind.min, IntKind.max, IntKind.signed, IntKind.bits] at h
  simp at h
  omega
set_option maxRecDepth 100000 in
theorem open_mani {H : Type} {enc : TypeId × Value → H} {w : World} {base : Nat} {spare : Nat → Bool} {held : Bool} {fuel : Nat} {cs : List Value} {x : DataW H × List MemPlace}
    (h : DataW.trod enc Tryz.prog w base spare held fuel 39 cs = some x) : ∃ (m : Mf) (e o : SA), cs = mfL m e o ∧ MfIn w m e o := by
  have ck : Tryz.prog.cellsOf 39 = 6 := by kernel_rfl
  have cp : Tryz.prog.cellsOf 46 = 2 := by kernel_rfl
  have cb : Tryz.prog.cellsOf 66 = 3 := by kernel_rfl
  have c1 : Tryz.prog.cellsOf 3 = 1 := by kernel_rfl
  have c2 : Tryz.prog.cellsOf 2 = 1 := by kernel_rfl
  have c3 : Tryz.prog.cellsOf 9 = 1 := by kernel_rfl
  have c4 : Tryz.prog.cellsOf 64 = 1 := by kernel_rfl
  have c5 : Tryz.prog.cellsOf 36 = 1 := by kernel_rfl
  have c6 : Tryz.prog.cellsOf 37 = 1 := by kernel_rfl
  obtain ⟨xs, n, _, _, hl, hxl, hf⟩ := DataW.trod_struct zCb h; rw [ck] at hl
  match cs, hl with
  | [v0, v1, v2, v3, v4, v5], _ =>
    have get : ∀ (i : Nat), i < 6 → ∃ y, xs[i]? = some y := fun i hi => ⟨xs[i]'(by rw [hxl]; exact hi), List.getElem?_eq_getElem _⟩
    obtain ⟨y0, q0⟩ := get 0 (by decide); obtain ⟨y1, q1⟩ := get 1 (by decide); obtain ⟨y2, q2⟩ := get 2 (by decide); obtain ⟨y3, q3⟩ := get 3 (by decide); obtain ⟨y4, q4⟩ := get 4 (by decide); obtain ⟨y5, q5⟩ := get 5 (by decide); have g0 : DataW.trod enc Tryz.prog w base spare held n 3 (([v0, v1, v2, v3, v4, v5].drop 0).take (Tryz.prog.cellsOf 3)) = some y0 := (hf 0 _ rfl).trans q0; have g1 : DataW.trod enc Tryz.prog w base spare held n 2 (([v0, v1, v2, v3, v4, v5].drop 1).take (Tryz.prog.cellsOf 2)) = some y1 := (hf 1 _ rfl).trans q1
    have g2 : DataW.trod enc Tryz.prog w base spare held n 2 (([v0, v1, v2, v3, v4, v5].drop 2).take (Tryz.prog.cellsOf 2)) = some y2 := (hf 2 _ rfl).trans q2; have g3 : DataW.trod enc Tryz.prog w base spare held n 2 (([v0, v1, v2, v3, v4, v5].drop 3).take (Tryz.prog.cellsOf 2)) = some y3 := (hf 3 _ rfl).trans q3; have g4 : DataW.trod enc Tryz.prog w base spare held n 36 (([v0, v1, v2, v3, v4, v5].drop 4).take (Tryz.prog.cellsOf 36)) = some y4 := (hf 4 _ rfl).trans q4; have g5 : DataW.trod enc Tryz.prog w base spare held n 37 (([v0, v1, v2, v3, v4, v5].drop 5).take (Tryz.prog.cellsOf 37)) = some y5 := (hf 5 _ rfl).trans q5; rw [c1] at g0; rw [c2] at g1 g2 g3; rw [c5] at g4; rw [c6] at g5
    obtain ⟨z0, e0, _, _⟩ := DataW.trod_int uz3 g0; obtain ⟨z1, e1, _, _⟩ := DataW.trod_int uz2 g1; obtain ⟨z2, e2, _, _⟩ := DataW.trod_int uz2 g2; obtain ⟨z3, e3, _, _⟩ := DataW.trod_int uz2 g3
    cases e0; cases e1; cases e2; cases e3
    have g4 : DataW.trod enc Tryz.prog w base spare held n 36 [v4] = some y4 := g4; have g5 : DataW.trod enc Tryz.prog w base spare held n 37 [v5] = some y5 := g5
    obtain ⟨a4, n4, k4, rfl⟩ : ∃ a n c, v4 = .slice a n c := by
      rcases open_slice zDq g4 with ⟨e, _⟩ | ⟨a, l, c, _, _, _, _, e, _⟩ <;> cases e <;> exact ⟨_, _, _, rfl⟩
    obtain ⟨a5, n5, k5, rfl⟩ : ∃ a n c, v5 = .slice a n c := by
      rcases open_slice zDf g5 with ⟨e, _⟩ | ⟨a, l, c, _, _, _, _, e, _⟩ <;> cases e <;> exact ⟨_, _, _, rfl⟩
    obtain ⟨eps, h4, _⟩ := open_structs (P := Tryz.prog) (k := 2) prL (fun _ => True) zDq uz46 cp (by decide) (fun row m hl hf => by
      match row, hl with
      | [u0, u1], _ =>
        obtain ⟨t0, r0⟩ := hf 0 _ rfl; obtain ⟨t1, r1⟩ := hf 1 _ rfl; have r0 : DataW.trod enc Tryz.prog w base spare held m 3 (([u0, u1].drop 0).take (Tryz.prog.cellsOf 3)) = some t0 := r0; have r1 : DataW.trod enc Tryz.prog w base spare held m 2 (([u0, u1].drop 1).take (Tryz.prog.cellsOf 2)) = some t1 := r1; rw [c1] at r0; rw [c2] at r1; obtain ⟨z0, e0, _, _⟩ := DataW.trod_int uz3 r0; obtain ⟨z1, e1, _, _⟩ := DataW.trod_int uz2 r1
        cases e0; cases e1
        exact ⟨(z0, z1), rfl, trivial⟩) g4
    obtain ⟨obs, h5, h6⟩ := open_structs (P := Tryz.prog) (k := 3) obL (fun y : Ob => y.2.2 < 4294967296) zDf uz66 cb (by decide) (fun row m hl hf => by
      match row, hl with
      | [u0, u1, u2], _ =>
        obtain ⟨t0, r0⟩ := hf 0 _ rfl; obtain ⟨t1, r1⟩ := hf 1 _ rfl; obtain ⟨t2, r2⟩ := hf 2 _ rfl; have r0 : DataW.trod enc Tryz.prog w base spare held m 9 (([u0, u1, u2].drop 0).take (Tryz.prog.cellsOf 9)) = some t0 := r0; have r1 : DataW.trod enc Tryz.prog w base spare held m 3 (([u0, u1, u2].drop 1).take (Tryz.prog.cellsOf 3)) = some t1 := r1; have r2 : DataW.trod enc Tryz.prog w base spare held m 64 (([u0, u1, u2].drop 2).take (Tryz.prog.cellsOf 64)) = some t2 := r2; rw [c3] at r0; rw [c1] at r1; rw [c4] at r2; obtain ⟨s0, e0, _, _⟩ := DataW.trod_string uz9 r0; obtain ⟨z1, e1, _, _⟩ := DataW.trod_int uz3 r1; obtain ⟨z2, e2, _, f2⟩ := DataW.trod_int uz64 r2
        cases e0; cases e1; cases e2
        have h9 := wf_u32 f2
        exact ⟨(s0, z1, z2.toNat), by simp only [obL]; rw [Int.toNat_of_nonneg h9.1], by show z2.toNat < _; omega⟩) g5
    have l4 : n4 = eps.length := by have := h4.len; simpa using this
    have l5 : n5 = obs.length := by have := h5.len; simpa using this
    subst l4 l5; exact ⟨⟨z0, z1, z2, z3, eps, obs⟩, (a4, k4), (a5, k5), rfl, h4, h5, h6⟩
end
section
open Go.RowKit
attribute [local irreducible] zAh eV
variable {g w : World} {L M : List HP} {ad : Nat → Addr}
theorem list_two {α : Type} {l : List α} (h : l.length = 2) : ∃ a b, l = [a, b] := by
  match l, h with
  | [a, b], _ => exact ⟨a, b, rfl⟩
def rG (each : Nat) (o : Ob) (b : List UInt8) : Nat := if obCk o b ≠ 0 then obCk o b else if 256 < zB2 b.length each then 104 else 0
theorem rG_eq {each : Nat} {o : Ob} {b : List UInt8} (h : 1 ≤ each ∧ each ≤ 1048576) (hv : zBq o.1.data.toList = true) : rG each o b = obG each o b := by
  have hm : (mkR o.1 b (each : Nat)).1 = if 256 < zB2 b.length each then 104 else 0 := by
    unfold mkR
    rw [if_neg (by rw [hv]; decide), if_neg (by omega)]; simp only [Int.toNat_natCast]
    split <;> rfl
  unfold rG obG
  rw [hm]
def refW (g0 g1 : Nat) : Nat → Flt
  | 0 => (0, none)
  | 1 => if g1 ≠ 0 then (g1, some 1) else (0, none)
  | _ => if g0 ≠ 0 then (g0, some 0) else if g1 ≠ 0 then (g1, some 1) else (0, none)
theorem upG_two {each : Int} {o0 o1 : Ob} {x y : List UInt8} : upG each 0 [o0, o1] [x, y] = refW (obG each o0 x) (obG each o1 y) 2 := by
  simp only [upG, refW]
theorem mf_names {m : Mf} (h : (mfF m).1 = 0) : ∀ o ∈ m.obs, zBq o.1.data.toList = true := fun o ho => by
  have hb := (mf_fine h).ob o ho
  unfold zCv at hb
  split at hb
  · cases hb
  · rename_i hv
    simpa using hv
theorem mf_eps {m : Mf} (h : (mfF m).1 = 0) : m.eps.length ≤ 256 := (mf_fine h).eps
theorem obCk_code (o : Ob) (b : List UInt8) : obCk o b = 0 ∨ obCk o b = 102 ∨ obCk o b = 103 := by
  unfold obCk
  split
  · exact .inr (.inr rfl)
  · split
    · exact .inr (.inl rfl)
    · exact .inl rfl
theorem mkR_code (n : ByteArray) (l : List UInt8) (e : Int) : (mkR n l e).1 = 0 ∨ (mkR n l e).1 = 106 ∨ (mkR n l e).1 = 105 ∨ (mkR n l e).1 = 104 := by
  unfold mkR
  split
  · exact .inr (.inl rfl)
  · split
    · exact .inr (.inr (.inl rfl))
    · split
      · exact .inr (.inr (.inr rfl))
      · exact .inl rfl
theorem obG_code (each : Int) (o : Ob) (b : List UInt8) : obG each o b = 0 ∨ obG each o b ∈ allCodes := by
  by_cases h : obCk o b ≠ 0
  · rw [obG, if_pos h]
    rcases obCk_code o b with e | e | e
    · exact .inl e
    · rw [e]; exact .inr (by decide)
    · rw [e]; exact .inr (by decide)
  · rw [obG, if_neg h]
    rcases mkR_code o.1 b each with e | e | e | e
    · exact .inl e
    · rw [e]; exact .inr (by decide)
    · rw [e]; exact .inr (by decide)
    · rw [e]; exact .inr (by decide)
theorem upG_flt (each : Int) : ∀ (os : List Ob) (i : Nat) (bs : List (List UInt8)), upG each i os bs = (0, none) ∨ (upG each i os bs).1 ∈ allCodes
  | [], i, bs => .inl (by simp [upG])
  | o :: os, i, [] => .inl (by simp [upG])
  | o :: os, i, b :: bs => by
    rw [upG]
    by_cases h : obG each o b ≠ 0
    · rw [if_pos h]
      exact .inr ((obG_code each o b).resolve_left h)
    · rw [if_neg h]
      exact upG_flt each os _ _
theorem upF_flt (each : Int) (m : Mf) (bs : List (List UInt8)) : upF each m bs = (0, none) ∨ (upF each m bs).1 ∈ allCodes := by
  unfold upF
  split
  · exact .inr (show 105 ∈ allCodes by decide)
  · split
    · rename_i h
      rcases (mfF_ok m).1 with e | e
      · rw [e] at h; exact absurd rfl h
      · right
        simp only [List.mem_cons, List.not_mem_nil, or_false] at e
        rcases e with e | e | e | e <;> (rw [e]; decide)
    · split
      · exact .inr (show 103 ∈ allCodes by decide)
      · exact upG_flt _ _ _ _
theorem NewR.both {V : Vw} {d l c : Nat} {each : Int} {m : Mf} {bs : List (List UInt8)} {is : Bool} {z : S4} {R : List HP} {v : Value} {w' : World} (h : NewR ad g each m bs V d l c is z R v w') (hV : V.state m.id < 2) :
    ∃ (pp : Option Addr) (eb : Nat), v = .tuple #[.pointer pp, flV ad (upF each m bs) eb] ∧ (pp = none ↔ (upF each m bs).1 ≠ 0) ∧ Mem g w' (flC ad (upF each m bs) eb :: R) := by
  rcases h with ⟨h, eb, rfl, hs⟩ | ⟨_, h, _⟩ | ⟨h0, _, u, s1, s2, xs, s3, s4, rfl, _, hs⟩
  · exact ⟨none, eb, rfl, ⟨fun _ => h, fun _ => rfl⟩, hs⟩
  · omega
  · have hF : upF each m bs = (0, none) := by
      rcases upF_flt each m bs with e | e
      · exact e
      · rw [h0] at e; exact absurd e (by decide)
    rw [hF]; exact ⟨some ⟨u, 0, none⟩, 0, by rw [flV_bare, zAz], ⟨fun h => (by cases h), fun h => absurd rfl h⟩, hs.tail.addE (emp_okF _)⟩
end
section
open Go.RowKit
variable {osb K os : List (ByteArray × List UInt8)} {e t : Nat} {uid : Int} {st : St} {i : Int} {cl : Bool}
def restM (e : Nat) (os : List (ByteArray × List UInt8)) : Nat := (os.map fun x => zB2 x.2.length e + 2).sum
def ObI (osb K os : List (ByteArray × List UInt8)) (e : Nat) (i : Int) (cl : Bool) (a : S4) (st : St) (M : Nat) : Prop :=
  (∃ (k : Nat) (o : ByteArray × List UInt8) (uid : Int) (done m : Nat), os[k]? = some o ∧ a = (i, (k : Int), uid, (done : Int)) ∧ PIn osb (K ++ os.take k) st ∧ PhaseG o.1 o.2 e uid done st m ∧ M = m + restM e (os.drop (k + 1)) ∧ (cl = true → CleanG o.2 e uid st m)) ∨
  (a = (i, ((os.length : Nat) : Int), 0, 0) ∧ PIn osb (K ++ os) st ∧ M = 0 ∧ (cl = true → st.script = [] ∧ st.ups = []))
def tLeft (st : St) (M : Nat) : Nat := st.script.length + (if st.script = [] then M else 700)
theorem tLeft_lt {st st' : St} {M M' : Nat} (h : st'.script.length ≤ st.script.length - 1) (hM : M' ≤ 700) (h2 : st.script = [] → M' < M) : tLeft st' M' < tLeft st M := by
  unfold tLeft
  by_cases h0 : st.script = []
  · have h1 := zF4 h h0
    rw [if_pos h1, if_pos h0, h1, h0]; have := h2 h0; simp only [List.length_nil]
    omega
  · rw [if_neg h0]
    have : st.script.length ≠ 0 := fun hz => h0 (List.eq_nil_of_length_eq_zero hz)
    split <;> omega
theorem restM_le (he : 1 ≤ e) : ∀ {os : List (ByteArray × List UInt8)}, (∀ o ∈ os, o.2.length ≤ 256) → restM e os ≤ 258 * os.length
  | [], _ => Nat.le_refl _
  | o :: os, h => by
    have h1 := zDk (n := o.2.length) he; have h2 := h o (List.mem_cons_self ..)
    have h3 := restM_le he (os := os) fun o ho => h o (List.mem_cons_of_mem _ ho)
    simp only [restM, List.map_cons, List.sum_cons, List.length_cons] at h3 ⊢
    omega
theorem restM_drop {k : Nat} {o : ByteArray × List UInt8} (h : os[k]? = some o) : restM e (os.drop k) = zB2 o.2.length e + 2 + restM e (os.drop (k + 1)) := by
  obtain ⟨hk, rfl⟩ := List.getElem?_eq_some_iff.1 h; rw [List.drop_eq_getElem_cons hk]; simp only [restM, List.map_cons, List.sum_cons]
theorem ObI.at {k : Nat} (h : PIn osb (K ++ os.take k) st) (hk : k ≤ os.length) (hc : cl = true → st.script = [] ∧ st.ups = []) : ObI osb K os e i cl (i, (k : Int), 0, 0) st (restM e (os.drop k)) := by
  cases ho : os[k]? with
  | none =>
    have : k = os.length := by have := List.getElem?_eq_none_iff.1 ho; omega
    subst this; rw [List.take_length] at h; refine .inr ⟨rfl, h, ?_, hc⟩; rw [List.drop_length]
    rfl
  | some o =>
    exact .inl ⟨k, o, 0, 0, _, ho, rfl, h, .inl ⟨rfl, rfl, rfl⟩, restM_drop ho, fun hl => ⟨(hc hl).1, (fun z hz => by rw [(hc hl).2] at hz; cases hz), Nat.le_refl _⟩⟩
theorem ObI.le {a : S4} {M : Nat} (he : 1 ≤ e) (hos : ∀ o ∈ os, o.2.length ≤ 256) (h2 : os.length ≤ 2) (h : ObI osb K os e i cl a st M) : M ≤ 600 := by
  rcases h with ⟨k, o, u, d, m, ho, rfl, _, h, rfl, _⟩ | ⟨rfl, _, rfl, _⟩
  · obtain ⟨hk, rfl⟩ := List.getElem?_eq_some_iff.1 ho
    have h1 := zDk (n := os[k].2.length) he; have h3 := hos _ (List.getElem_mem hk)
    have h4 := restM_le he (os := os.drop (k + 1)) fun o ho => hos o (List.mem_of_mem_drop ho)
    have h5 := h.le.1; rw [List.length_drop] at h4
    omega
  · omega
theorem ObI.next {k done : Nat} {M : Nat} (he : 1 ≤ e) (hos : ∀ o ∈ os, o.2.length ≤ 256) (h2 : os.length ≤ 2) (h : ObI osb K os e i cl (i, (k : Int), uid, (done : Int)) st M) (hk : k < os.length) :
    ∃ o m, os[k]? = some o ∧ PIn osb (K ++ os.take k) st ∧ PhaseG o.1 o.2 e uid done st m ∧
      ∀ (id' : Int) (done' : Nat) (is : Bool) (z : Nat) (st' : St), PResG osb (K ++ os.take k) o.1 o.2 e t uid done st m id' done' is z st' →
        (z = 111 ∧ st.script ≠ [] ∧ ∃ M', ObI osb K os e i cl (i, (k : Int), uid, (done : Int)) st' M' ∧ tLeft st' M' < tLeft st M) ∨
        (z = 0 ∧ ∃ M', ObI osb K os e i cl (if is = true then (i, ((k + 1 : Nat) : Int), 0, 0) else (i, (k : Int), id', (done' : Int))) st' M' ∧ tLeft st' M' < tLeft st M ∧ (cl = true → M' + 1 = M)) := by
  rcases h with ⟨k', o, u, d, m, ho, ha, hp, hph, rfl, hc⟩ | ⟨ha, _⟩
  · simp only [Prod.mk.injEq, true_and] at ha
    obtain ⟨hk0, rfl, hd⟩ := ha
    have hk0 : k = k' := by omega
    have hd : done = d := by omega
    subst hk0 hd
    have hR : restM e (os.drop (k + 1)) ≤ 258 := by
      have := restM_le he (os := os.drop (k + 1)) fun o ho => hos o (List.mem_of_mem_drop ho)
      rw [List.length_drop] at this
      omega
    have hP := zDk (n := o.2.length) he; have hol := hos o (List.mem_of_getElem? ho); refine ⟨o, m, ho, hp, hph, fun id' done' is z st' hr => ?_⟩; obtain ⟨r1, _, _, _, r5, r6⟩ := hr
    rcases r6 with ⟨rfl, rfl, rfl, rfl, hn, m', hm'⟩ | ⟨rfl, rfl, m', hm', hle, hcl⟩ | ⟨rfl, rfl, hg, hcl⟩
    · refine .inl ⟨rfl, hn, _, .inl ⟨_, _, _, _, _, ho, rfl, r1, hm', rfl, fun hl => absurd (hc hl).1 hn⟩, tLeft_lt r5 (by have := hm'.le.1; omega) fun h0 => absurd h0 hn⟩
    · refine .inr ⟨rfl, _, by rw [if_neg (by decide)]; exact .inl ⟨_, _, _, _, _, ho, rfl, r1, hm', rfl, fun hl => (hcl (hc hl)).1⟩, tLeft_lt r5 (by have := hm'.le.1; omega) fun h0 => by omega, fun hl => by have := (hcl (hc hl)).2; omega⟩
    · have hb : zAw st'.objs o.1 = some o.2 := hg.2
      have hq := r1.keep hb; rw [List.append_assoc, show (o.1, o.2) = o from rfl, show os.take k ++ [o] = os.take (k + 1) by rw [List.take_add_one, ho]; rfl] at hq; refine .inr ⟨rfl, _, by rw [if_pos rfl]; exact ObI.at hq (by omega) fun hl => ⟨(hcl (hc hl)).2.2, (hcl (hc hl)).2.1⟩, tLeft_lt r5 (by omega) fun h0 => by have := hph.le.2.1; omega, fun hl => by have := (hcl (hc hl)).1; omega⟩
  · simp only [Prod.mk.injEq, true_and] at ha
    omega
theorem ObI.end_ {M : Nat} {a : S4} (h : ObI osb K os e i cl a st M) (hk : ¬ a.2.1 < (os.length : Nat)) : a = (i, ((os.length : Nat) : Int), 0, 0) ∧ PIn osb (K ++ os) st ∧ (∀ o ∈ os, zAw st.objs o.1 = some o.2) ∧ M = 0 ∧ (cl = true → st.script = [] ∧ st.ups = []) := by
  rcases h with ⟨k, o, u, d, m, ho, rfl, _⟩ | ⟨rfl, hp, hM, hc⟩
  · have := (List.getElem?_eq_some_iff.1 ho).1
    exact absurd (show (k : Int) < (os.length : Nat) by omega) hk
  · exact ⟨rfl, hp, fun o ho => hp.kept o (List.mem_append_right _ ho), hM, hc⟩
theorem ObI.form {M : Nat} {a : S4} (he : 1 ≤ e) (hos : ∀ o ∈ os, o.2.length ≤ 256) (h : ObI osb K os e i cl a st M) : ∃ (k done : Nat) (uid : Int), a = (i, (k : Int), uid, (done : Int)) ∧ k ≤ os.length ∧ 0 ≤ uid ∧ uid ≤ (st.ids : Nat) ∧ done ≤ 256 := by
  rcases h with ⟨k, o, u, d, m, ho, rfl, _, h, _⟩ | ⟨rfl, _⟩
  · have h1 := zDk (n := o.2.length) he
    have h2 := hos o (List.mem_of_getElem? ho); have h3 := h.le.2.2; refine ⟨k, d, u, rfl, by have := (List.getElem?_eq_some_iff.1 ho).1; omega, h3.2, ?_, by omega⟩
    rcases h with h | h | h
    · omega
    · exact h.2.1
    · exact h.2.1
  · exact ⟨os.length, 0, 0, rfl, Nat.le_refl _, by omega, by omega, by omega⟩
end
section
open Go.RowKit
attribute [local irreducible] zAh eV
variable {g w : World} {L M : List HP} {ad : Nat → Addr} {p u n q c : Nat} {dk : Dk} {st : St} {t : UpT} {a : S4} {ov : Bool} {V V0 V1 V2 : Vw} {osb K : List (ByteArray × List UInt8)} {cl : Bool}
def osU (t : UpT) : List (ByteArray × List UInt8) := (t.m.obs.zip t.xs).map fun p => (p.1.1, p.2.1)
structure UpOk (osb : List (ByteArray × List UInt8)) (t : UpT) : Prop where
  each : 1 ≤ t.each ∧ t.each ≤ 1000
  len : t.m.obs.length = t.xs.length
  two : t.xs.length ≤ 2
  osf : OsF osb
  sub : ∀ o ∈ osU t, o ∈ osb
  idr : 0 ≤ t.m.id ∧ t.m.id ≤ 2147483647
theorem osU_len (h : UpOk osb t) : (osU t).length = t.xs.length := by
  rw [osU, List.length_map, List.length_zip, h.len]
  omega
theorem osU_at {k : Nat} {o : ByteArray × List UInt8} (h : (osU t)[k]? = some o) : ∃ y x, t.m.obs[k]? = some y ∧ t.xs[k]? = some x ∧ o = (y.1, x.1) := by
  rw [osU, List.getElem?_map] at h; obtain ⟨⟨y, x⟩, h1, rfl⟩ := Option.map_eq_some_iff.1 h; obtain ⟨h2, h3⟩ := List.getElem?_zip_eq_some.1 h1; exact ⟨y, x, h2, h3, rfl⟩
theorem UpOk.small (h : UpOk osb t) : ∀ o ∈ osU t, o.2.length ≤ 256 := fun o ho => h.osf.len o.1 o.2 (h.sub o ho)
def GoneJ (dk : Dk) : Prop := ∃ (B : Nat) (f : ByteArray → Option (List UInt8)), RawI UpN B f dk ∧ f nUp = none
structure LgC (ad : Nat → Addr) (g : World) (t : UpT) (Lg : Nat → Vw → Nat → Nat → Nat → Dk → Prop) (V0 V1 V2 : Vw) : Prop where
  a1 : ∀ {q c n : Nat} {dk : Dk} {w : World} {M : List HP}, Lg 0 V0 q c n dk → dk.calls < 700000 → Mem g w (zDl t.l t.d 3 V0 q c n :: zBc t.d dk :: M) → MfR g M t.m t.s1 t.s2 → Calls Tryz.prog 52 #[.pointer (some ⟨t.l, 0, none⟩), .agg (.int .i64 1 :: mfL t.m t.s1 t.s2).toArray] w (Ret fun v w' => ∃ kr dk2 V' q' c' n', v = zAh ad kr ∧ (kr = 0 ∧ V' = V1 ∧ Lg 1 V1 q' c' n' dk2 ∧ dk2.calls ≤ dk.calls + 40) ∧ Mem g w' (zDl t.l t.d 3 V' q' c' n' :: zBc t.d dk2 :: M))
  a2 : ∀ {q c n : Nat} {dk : Dk} {w : World} {M : List HP}, Lg 1 V1 q c n dk → dk.calls < 700000 → Mem g w (zDl t.l t.d 3 V1 q c n :: zBc t.d dk :: M) → MfR g M t.m t.s1 t.s2 → Calls Tryz.prog 52 #[.pointer (some ⟨t.l, 0, none⟩), .agg (.int .i64 2 :: mfL t.m t.s1 t.s2).toArray] w (Ret fun v w' => ∃ kr dk2 V' q' c' n', v = zAh ad kr ∧ (kr = 0 ∧ V' = V2 ∧ Lg 2 V2 q' c' n' dk2 ∧ dk2.calls ≤ dk.calls + 40) ∧ Mem g w' (zDl t.l t.d 3 V' q' c' n' :: zBc t.d dk2 :: M))
  jw : ∀ {q c n : Nat} {dk : Dk} {s : S4}, Lg 1 V1 q c n dk → (s4L s).all inR = true → ∃ e, dk.jwrite (s4L s) = (0, e) ∧ e.calls ≤ dk.calls + 40 ∧ (e.ok → Lg 1 V1 q c n e)
  jr : ∀ {q c n : Nat} {dk : Dk}, Lg 2 V2 q c n dk → ∃ e, dk.jremove = (0, e) ∧ e.calls ≤ dk.calls + 20 ∧ (e.ok → Lg 2 V2 q c n e ∧ GoneJ e)
  s0 : V0.state t.m.id = 0
  s1 : V1.state t.m.id = 1
  s2 : V2.state t.m.id = 2
def vAt (V0 V1 V2 : Vw) : Nat → Vw | 0 => V0 | 1 => V1 | _ => V2
def StI (osb K : List (ByteArray × List UInt8)) (t : UpT) (cl : Bool) (Lg : Nat → Vw → Nat → Nat → Nat → Dk → Prop) (V0 V1 V2 : Vw) (s : Nat) (a : S4) (ov : Bool) (V : Vw) (q c n : Nat) (dk : Dk) (st : St) (M : Nat) : Prop :=
  V = vAt V0 V1 V2 s ∧ Lg s V q c n dk ∧
  ((s = 0 ∧ ov = false ∧ a = (t.m.id, 0, 0, 0) ∧ PIn osb K st ∧ (cl = true → st.script = [] ∧ st.ups = []) ∧ M = restM t.each (osU t) + 2) ∨
   (s = 1 ∧ ov = false ∧ ∃ M0, ObI osb K (osU t) t.each t.m.id cl a st M0 ∧ M = M0 + 1) ∨
   (s = 2 ∧ ov = true ∧ PIn osb (K ++ osU t) st ∧ (∀ o ∈ osU t, zAw st.objs o.1 = some o.2) ∧ (cl = true → st.script = [] ∧ st.ups = []) ∧ M = 0 ∧ GoneJ dk))
def uLeft (s : Nat) (st : St) (M : Nat) : Nat := if s = 2 then 0 else tLeft st (M - (2 - s)) + (2 - s)
theorem uLeft0 (st : St) (M : Nat) : uLeft 0 st M = tLeft st (M - 2) + 2 := rfl
theorem uLeft1 (st : St) (M : Nat) : uLeft 1 st M = tLeft st (M - 1) + 1 := rfl
theorem uLeft2 (st : St) (M : Nat) : uLeft 2 st M = 0 := rfl
def Bnd (cb ak : Nat) (st : St) (dk : Dk) : Prop := st.calls ≤ cb ∧ st.failed ≤ cb ∧ st.ids ≤ cb ∧ ak ≤ cb ∧ dk.calls ≤ cb
set_option maxHeartbeats 1000000 in
theorem upStep (hE : ErrU ad g) (hU : UpOk osb t) (hK : ∀ x ∈ K, x ∈ osb) {Lg : Nat → Vw → Nat → Nat → Nat → Dk → Prop} (hL : LgC ad g t Lg V0 V1 V2) {s tr ak cb M0 : Nat} (hI : StI osb K t cl Lg V0 V1 V2 s a ov V q c n dk st M0) (hB : Bnd cb ak st dk) (hcb : cb ≤ 500000) (htr : tr + 1 ≤ 8)
    (hs : Mem g w (UpC u t a ov :: zBf t.c p ((tr + 1 : Nat) : Int) (ak : Nat) :: zB8 p st :: zDl t.l t.d 3 V q c n :: zBc t.d dk :: L)) :
    Calls Tryz.prog 16 #[.pointer (some ⟨u, 0, none⟩)] w (Ret fun v w' => ∃ (is : Bool) (y s' : Nat) (a' : S4) (ov' : Bool) (V' : Vw) (q' c' n' : Nat) (dk' : Dk) (st' : St) (ak' M' : Nat), v = .tuple #[.bool is, zAh ad y] ∧ StI osb K t cl Lg V0 V1 V2 s' a' ov' V' q' c' n' dk' st' M' ∧ Bnd (cb + 100) ak' st' dk' ∧
      (y = 0 ∨ y = 111 ∧ is = false ∧ V' = V ∧ s' = s ∧ st.script ≠ []) ∧ is = decide (s' = 2) ∧ (s ≤ s' ∧ (st.script = [] → st'.script = [])) ∧ (s ≠ 2 → uLeft s' st' M' < uLeft s st M0) ∧ (cl = true → y = 0 ∧ M' = M0 - 1) ∧
      Mem g w' (UpC u t a' ov' :: zBf t.c p ((tr + 1 : Nat) : Int) (ak' : Nat) :: zB8 p st' :: zDl t.l t.d 3 V' q' c' n' :: zBc t.d dk' :: L)) := by
  obtain ⟨b1, b2, b3, b4, b5⟩ := hB; obtain ⟨hV, hlg, hI⟩ := hI; have hol := osU_len hU; have htwo := hU.two
  rcases hI with ⟨rfl, rfl, rfl, hp, hcl, rfl⟩ | ⟨rfl, rfl, M1, hob, rfl⟩ | ⟨rfl, rfl, hp, hob, hcl, rfl, hgj⟩
  · have hV : V = V0 := hV
    subst hV; refine (step_first (R := fun kr dk2 V' q' c' n' => kr = 0 ∧ V' = V1 ∧ Lg 1 V1 q' c' n' dk2 ∧ dk2.calls ≤ dk.calls + 40) hL.s0 (fun hs hm => hL.a1 hlg (by omega) hs hm) (hs.arr [0, 3, 4, 1, 2] 5 (by decide))).mono ?_; rintro _ w' ⟨v, rfl, kr, dk2, V', q', c', n', rfl, ⟨rfl, rfl, hl2, hc2⟩, hs⟩; refine ⟨_, rfl, false, 0, 1, _, false, _, q', c', n', dk2, st, ak, restM t.each (osU t) + 1, rfl, ⟨rfl, hl2, .inr (.inl ⟨rfl, rfl, _, ObI.at (k := 0) (by rw [List.take_zero, List.append_nil]; exact hp) (Nat.zero_le _) hcl, rfl⟩)⟩, ⟨by omega, by omega, by omega, by omega, by omega⟩, .inl rfl, rfl, ⟨by omega, id⟩, fun _ => ?_, fun _ => ⟨rfl, rfl⟩, hs.arr [0, 3, 4, 1, 2] 5 (by decide)⟩
    rw [uLeft0, uLeft1]; simp only [Nat.add_sub_cancel]
    omega
  · have hV : V = V1 := hV
    subst hV
    have hst : V.state t.m.id ≠ 0 := by rw [hL.s1]; decide
    have hM1 := hob.le hU.each.1 hU.small (by omega)
    by_cases hk : a.2.1 < (t.xs.length : Nat)
    · obtain ⟨k, done, uid, rfl, f1, f2, f3, f4⟩ := hob.form hU.each.1 hU.small
      have hk : (k : Int) < (t.xs.length : Nat) := hk; obtain ⟨o, m, ho, hp, hph, hnx⟩ := ObI.next (t := tr + 1) hU.each.1 hU.small (by omega) hob (by omega); obtain ⟨yo, x, hy, hx, rfl⟩ := osU_at ho; have hom := List.mem_of_getElem? ho
      have hKk : ∀ z ∈ K ++ (osU t).take k, z ∈ osb := fun z hz => by
        rcases List.mem_append.1 hz with h | h
        · exact hK z h
        · exact hU.sub z (List.mem_of_mem_take h)
      refine (step_obj (Q := fun kk w' => ∃ (a' : S4) (dk' : Dk) (st' : St) (ak' M' : Nat), (kk = 0 ∨ kk = 111 ∧ st.script ≠ []) ∧ ObI osb K (osU t) t.each t.m.id cl a' st' M' ∧ tLeft st' M' < tLeft st M1 ∧ (cl = true → kk = 0 ∧ M' + 1 = M1) ∧ Lg 1 V q c n dk' ∧ (Bnd (cb + 100) ak' st' dk' ∧ (st.script = [] → st'.script = [])) ∧ Mem g w' (UpC u t a' false :: zBf t.c p ((tr + 1 : Nat) : Int) (ak' : Nat) :: zB8 p st' :: zDl t.l t.d 3 V q c n :: zBc t.d dk' :: L)) (ev := 3) hE hst hk (fun w hs => ?_) (hs.arr [0, 3, 1, 2, 4] 5 (by decide))).mono ?_
      · refine (object_sl (p := p) (st := st) (dk := dk) (tr := tr + 1) (ak := ak) (J := fun s j e => j = 0 ∧ e.calls ≤ dk.calls + 40 ∧ (e.ok → Lg 1 V q c n e)) (R := fun id' done' is y st' a' => a' ≤ ak + 2 * (tr + 1) ∧ PResG osb (K ++ (osU t).take k) yo.1 x.1 t.each (tr + 1) uid done st m id' done' is y st') hE hx hy (fun hs hr => (ps_gen hE.uG hU.osf (hU.sub _ hom) hKk hU.each.1 hU.each.2 htr hp hph (by omega) (by omega) (by omega) (by omega) hs hr).mono ?_) ?_ hU.idr (by omega) (by omega) (fun s hs => ?_) (hs.arr [0, 2, 3, 4, 1] 5 (by decide))).mono ?_
        · rintro _ w' ⟨v, rfl, id', done', is, z, st', a', e1, e2, e3, hs⟩
          exact ⟨v, rfl, id', done', is, z, st', a', e1, ⟨e2, e3⟩, hs⟩
        · rintro id' done' is z st' a' ⟨_, hr⟩
          obtain ⟨r1, r2, r3, r4, r5, r6⟩ := hr
          rcases r6 with ⟨rfl, rfl, rfl, rfl, _⟩ | ⟨rfl, rfl, m', hm', _⟩ | ⟨rfl, rfl, _⟩
          · exact ⟨.inr rfl, fun _ => ⟨f2, by omega, by omega⟩⟩
          · have h1 := hm'.le
            have h2 := zDk (n := x.1.length) hU.each.1; have h3 := hU.small _ hom; simp only at h3; refine ⟨.inl rfl, fun _ => ⟨h1.2.2.2, ?_, by omega⟩⟩
            rcases hm' with h | h | h
            · omega
            · have := h.2.1; omega
            · have := h.2.1; omega
          · exact ⟨.inl rfl, fun h => by cases h⟩
        · obtain ⟨e, h1, h2, h3⟩ := hL.jw hlg hs
          exact ⟨0, e, h1, .inl rfl, rfl, h2, h3⟩
        · rintro _ w' ⟨v, rfl, id', done', is, z, st', a', ⟨ha', hr⟩, hs⟩
          obtain ⟨r1, r2, r3, r4, r5, r6⟩ := id hr
          rcases hs with ⟨hz, rfl, hs⟩ | ⟨rfl, s, j, e, rfl, ⟨rfl, hc2, hl2⟩, hjw, hin, rfl, hs⟩
          · rcases hnx id' done' is z st' hr with ⟨rfl, hn, M', hM', hlt⟩ | ⟨rfl, _⟩
            · exact ⟨_, rfl, 111, rfl, _, dk, st', a', M', .inr ⟨rfl, hn⟩, hM', hlt, fun hl => absurd (r6.elim (fun h => by
                rcases hob with ⟨_, _, _, _, _, _, ha, _, _, _, hc⟩ | ⟨_, _, _, hc⟩
                · exact (hc hl).1
                · exact (hc hl).1) fun h => by rcases h with ⟨h, _⟩ | ⟨h, _⟩ <;> cases h) hn, hlg, ⟨⟨by omega, by omega, by omega, by omega, by omega⟩, zF4 r5⟩, hs.arr [0, 1, 2, 4, 3] 5 (by decide)⟩
            · exact absurd rfl hz
          · rcases hnx id' done' is 0 st' hr with ⟨h, _⟩ | ⟨_, M', hM', hlt, hcM⟩
            · cases h
            · rw [if_pos rfl] at hs
              have hl3 := hl2 ((hs.arr [3] 4 (by decide)).openD).1; exact ⟨_, rfl, 0, rfl, _, e, st', a', M', .inl rfl, hM', hlt, fun hl => ⟨rfl, hcM hl⟩, hl3, ⟨⟨by omega, by omega, by omega, by omega, by omega⟩, zF4 r5⟩, hs.arr [0, 1, 2, 4, 3] 5 (by decide)⟩
      · rintro _ w' ⟨v, rfl, kk, rfl, a', dk', st', ak', M', hkk, hob', hlt, hcM, hl', hb', hs⟩
        refine ⟨_, rfl, false, kk, 1, a', false, V, q, c, n, dk', st', ak', M' + 1, rfl, ⟨rfl, hl', .inr (.inl ⟨rfl, rfl, M', hob', rfl⟩)⟩, hb'.1, hkk.imp (fun h => h) fun h => ⟨h.1, rfl, rfl, rfl, h.2⟩, rfl, ⟨Nat.le_refl _, hb'.2⟩, fun _ => ?_, fun hl => ⟨(hcM hl).1, by have := (hcM hl).2; omega⟩, hs⟩; rw [uLeft1, uLeft1]; simp only [Nat.add_sub_cancel]
        omega
    · obtain ⟨rfl, hp, hobs, rfl, hcl⟩ := hob.end_ (by rw [hol]; exact hk)
      refine (step_last (R := fun kr dk2 V' q' c' n' => kr = 0 ∧ V' = V2 ∧ Lg 2 V2 q' c' n' dk2 ∧ dk2.calls ≤ dk.calls + 40) hE hst hk (fun hs hm => hL.a2 hlg (by omega) hs hm) (fun h => by have := h.2.2.2; omega) (hs.arr [0, 3, 4, 1, 2] 5 (by decide))).mono ?_; rintro _ w' ⟨v, rfl, kr, dk2, V', q', c', n', ⟨rfl, rfl, hl2, hc2⟩, ⟨h, _⟩ | ⟨_, j, e, hj, rfl, hs⟩⟩
      · exact absurd rfl h
      · obtain ⟨e', h1, h2, h3⟩ := hL.jr hl2
        rw [h1] at hj
        cases hj
        have hl3 := h3 ((hs.arr [2] 3 (by decide)).openD).1; refine ⟨_, rfl, true, 0, 2, _, true, _, q', c', n', _, st, ak, 0, rfl, ⟨rfl, hl3.1, .inr (.inr ⟨rfl, rfl, hp, hobs, hcl, rfl, hl3.2⟩)⟩, ⟨by omega, by omega, by omega, by omega, by omega⟩, .inl rfl, rfl, ⟨by omega, id⟩, fun _ => ?_, fun _ => ⟨rfl, rfl⟩, hs.arr [0, 3, 4, 1, 2] 5 (by decide)⟩; rw [uLeft1, uLeft2]
        omega
  · refine (step_over (ev := 3) (hs.arr [0, 3, 1, 2, 4] 5 (by decide))).mono ?_
    rintro _ w' ⟨v, rfl, rfl, hs⟩; exact ⟨_, rfl, true, 0, 2, a, true, V, q, c, n, dk, st, ak, 0, by rw [zAz], ⟨hV, hlg, .inr (.inr ⟨rfl, rfl, hp, hob, hcl, rfl, hgj⟩)⟩, ⟨by omega, by omega, by omega, by omega, by omega⟩, .inl rfl, rfl, ⟨Nat.le_refl _, id⟩, fun h => absurd rfl h, fun _ => ⟨rfl, rfl⟩, hs.arr [0, 2, 3, 1, 4] 5 (by decide)⟩
end
section
open Go.RowKit
attribute [local irreducible] zAh
variable {g w : World} {L M : List HP} {ad : Nat → Addr} {p : Nat} {V : Vw}
theorem aget_last {V : Vw} {id : Int} {a : Itm} (h : zAw V id = none) : zAw (V ++ [(id, a)]) id = some a := by rw [← al_end h, zB3]
theorem aput_last {V : Vw} {id : Int} {a b : Itm} (h : zAw V id = none) : zBv (V ++ [(id, a)]) id b = V ++ [(id, b)] := by
  rw [zB7] at h
  induction V with
  | nil => simp [zBv]
  | cons x l ih =>
    obtain ⟨k, v⟩ := x; simp only [zAl, List.map_cons, List.mem_cons, not_or] at h; simp only [List.cons_append, zBv]; rw [if_neg (fun e => h.1 e.symm), ih h.2]
theorem Vw.apply_first {x : Mf} (hx : (mfF x).1 = 0) (h : zAw V x.id = none) (hl : V.length < 4096) : V.apply 1 x = ((0, none), V ++ [(x.id, ⟨1, x⟩)]) := by
  rw [Vw.apply_new hx (by omega) (by simp [Vw.state, h, nextB]) h, if_neg (by omega), al_end h]
theorem Vw.apply_last {x : Mf} {s k : Int} (hx : (mfF x).1 = 0) (h : zAw V x.id = none) (hn : nextB s k = true) : Vw.apply (V ++ [(x.id, ⟨s, x⟩)]) k x = ((0, none), V ++ [(x.id, ⟨k, x⟩)]) := by
  have hk := nextB_kind hn; rw [Vw.apply_old hx (by omega) (by simp [Vw.state, aget_last h, hn]) (aget_last h), if_pos rfl, aput_last h]
def stN (l : List Int) (id : Nat) : Nat := match l[id]? with | some z => (z % (5 : Nat)).toNat | none => 0
def madeV (l : List Int) (n : Nat) : Vw := (List.range n).filterMap fun id => if stN l id = 0 then none else some ((id : Int), ⟨(stN l id : Nat), oneM id (10 * id)⟩)
end
section
open Go.RowKit
attribute [local irreducible] zAh eV
variable {g w : World} {L M : List HP} {ad : Nat → Addr} {p u n q c d l : Nat} {dk : Dk} {st : St} {t : UpT} {a : S4} {ov : Bool} {V V0 V1 V2 : Vw} {osb K : List (ByteArray × List UInt8)} {cl : Bool}
def UgN (B R F : Nat) (j : Nat) (V : Vw) (q c n : Nat) (dk : Dk) : Prop := q = j ∧ c = j ∧ n = j * F ∧ dk.armed = 0 ∧ dk.room = R ∧ ∃ f mb, RawI UpN B f dk ∧ f mtN = some mb ∧ mb.length = n
theorem lgN (hM : ErrM ad g) {B R F : Nat} (hF : (mfB t.m).length + 17 = F) (h2 : 2 * F ≤ B) (hB : 60 ≤ B ∧ B ≤ 200000) (hR : 7 * B ≤ R) (hm : (mfF t.m).1 = 0) (hob : t.m.obs.length ≤ 1000000) (hsu : ∀ o ∈ t.m.obs, o.2.2 < 4294967296) :
    LgC ad g t (UgN B R F) [] [(t.m.id, ⟨1, t.m⟩)] [(t.m.id, ⟨2, t.m⟩)] := by
  have e1 : Vw.apply [] 1 t.m = ((0, none), [(t.m.id, ⟨1, t.m⟩)]) := Vw.apply_first hm rfl (by decide); have e2 : Vw.apply [(t.m.id, ⟨1, t.m⟩)] 2 t.m = ((0, none), [(t.m.id, ⟨2, t.m⟩)]) := Vw.apply_last (V := []) (s := 1) (k := 2) hm rfl rfl
  have h3 : 2 * UpN.length * B + B ≤ R := by show 2 * 3 * B + B ≤ R; omega
  have key : ∀ {j : Nat} {V V1 : Vw} {k : Int} {q c n : Nat} {dk : Dk} {w : World} {M : List HP}, j ≤ 1 → V.apply k t.m = ((0, none), V1) → UgN B R F j V q c n dk → dk.calls < 700000 → Mem g w (zDl t.l t.d 3 V q c n :: zBc t.d dk :: M) → MfR g M t.m t.s1 t.s2 → Calls Tryz.prog 52 #[.pointer (some ⟨t.l, 0, none⟩), .agg (.int .i64 k :: mfL t.m t.s1 t.s2).toArray] w (Ret fun v w' => ∃ kr dk2 V' q' c' n', v = zAh ad kr ∧ (kr = 0 ∧ V' = V1 ∧ UgN B R F (j + 1) V1 q' c' n' dk2 ∧ dk2.calls ≤ dk.calls + 40) ∧ Mem g w' (zDl t.l t.d 3 V' q' c' n' :: zBc t.d dk2 :: M)) := by
    intro j V V1 k q c n dk w M hj hap hl hcl hs hmr; obtain ⟨rfl, rfl, hn, ha, hr, f, mb, hI, hf, hmb⟩ := hl
    have hjF : c * F ≤ F := by
      rcases (show c = 0 ∨ c = 1 by omega) with rfl | rfl
      · simp
      · simp
    refine (appN_sl hM hs hI up_mt hB.2 hf hmb.symm (by omega) (by rw [hr]; exact h3) (by omega) (by omega) (by decide) (by rw [frame_len, hF]; omega) hmr hob hsu (by rw [hap])).mono ?_; rintro _ w' ⟨v, rfl, kr, dk2, V', q', c', n', rfl, ⟨r1, r2, ⟨rfl, _, r3, rfl, rfl, rfl, rfl, r4⟩ | ⟨_, _, r3, _⟩⟩, hs⟩
    · refine ⟨_, rfl, 0, dk2, _, _, _, _, rfl, ⟨rfl, by rw [hap], ⟨rfl, rfl, by rw [frame_len, hF, hmb, hn, Nat.add_mul, Nat.one_mul], r3 ha, by rw [r1, hr], _, _, r4, updF_same _ _ _, by rw [List.length_append]⟩, by omega⟩, hs⟩
    · exact absurd ha r3
  refine ⟨fun hl hc hs hm => key (by omega) e1 hl hc hs hm, fun hl hc hs hm => key (by omega) e2 hl hc hs hm, fun {q c n dk s} hl h4 => ?_, fun {q c n dk} hl => ?_, rfl, by simp [Vw.state, zAw], by simp [Vw.state, zAw]⟩
  · obtain ⟨r1, r2, hn, ha, hr, f, mb, hI, hf, hmb⟩ := hl
    obtain ⟨k, e, h5, h6, h7, ⟨rfl, _, h8, h9⟩ | ⟨_, _, h8, _⟩⟩ := hI.jput up_up upN_new h4 hB.1 (by rw [hr]; exact h3)
    · exact ⟨e, h5, by omega, fun he => ⟨r1, r2, hn, h8 ha, by rw [h6, hr], _, mb, h9 he, by rw [zFy _ _ mt_up]; exact hf, hmb⟩⟩
    · exact absurd ha h8
  · obtain ⟨r1, r2, hn, ha, hr, f, mb, hI, hf, hmb⟩ := hl
    obtain ⟨e, h5, h6, h7, h8, h9⟩ := hI.jgone ha up_up; exact ⟨e, h5, by omega, fun he => ⟨⟨r1, r2, hn, h8, by rw [h6, hr], _, mb, h9 he, by rw [clrF_other mt_up]; exact hf, hmb⟩, ⟨_, _, h9 he, clrF_same _⟩⟩⟩
theorem UgN.zero {B R F : Nat} {f : ByteArray → Option (List UInt8)} (hI : RawI UpN B (zEb f mtN []) dk) (ha : dk.armed = 0) (hr : dk.room = R) : UgN B R F 0 [] 0 0 0 dk := ⟨rfl, rfl, by simp, ha, hr, _, [], hI, updF_same _ _ _, rfl⟩
theorem NewR.fine {each : Int} {m : Mf} {bs : List (List UInt8)} {is : Bool} {z : S4} {R : List HP} {v : Value} {w' : World} (h : NewR ad g each m bs V d l c is z R v w') (h0 : (upF each m bs).1 = 0) (h1 : V.state m.id < 2) (h2 : is = false ∨ z.1 ≠ m.id ∨ V.state m.id ≠ 1) :
    ∃ u s1 s2 xs s3 s4, v = .tuple #[.pointer (some ⟨u, 0, none⟩), .nilIface] ∧ xs.map (·.1) = bs ∧ Mem g w' (UpC u ⟨d, l, c, m, s1, s2, each.toNat, xs, s3, s4⟩ (m.id, 0, 0, 0) false :: R) := by
  rcases h with ⟨h, _⟩ | ⟨_, h, _⟩ | ⟨_, _, u, s1, s2, xs, s3, s4, h3, h4, hs⟩
  · exact absurd h0 h
  · omega
  · rw [if_neg (by rintro ⟨g1, g2, g3, _⟩; rcases h2 with h2 | h2 | h2; rw [h2] at g1; cases g1; exact h2 g2; exact h2 g3)] at hs
    exact ⟨u, s1, s2, xs, s3, s4, h3, h4, hs⟩
def osM (m : Mf) (bs : List (List UInt8)) : List (ByteArray × List UInt8) := (m.obs.zip bs).map fun p => (p.1.1, p.2)
theorem osU_eq {xs : List (List UInt8 × SA)} {bs : List (List UInt8)} (h : t.xs.map (·.1) = bs) : osU t = osM t.m bs := by
  subst h
  unfold osU osM
  generalize t.m.obs = os; generalize t.xs = xs
  induction os generalizing xs with
  | nil => simp
  | cons o os ih => cases xs with
    | nil => simp
    | cons x xs => simp [ih]
theorem upOk_mk {each : Int} {bs : List (List UInt8)} {m : Mf} {s1 s2 s3 s4 : SA} {xs : List (List UInt8 × SA)} (h1 : 1 ≤ each ∧ each ≤ 1000) (hxs : xs.map (·.1) = bs) (hl : m.obs.length = bs.length) (h2 : bs.length ≤ 2) (hO : OsF osb) (hs : ∀ o ∈ osM m bs, o ∈ osb) (hid : 0 ≤ m.id ∧ m.id ≤ 2147483647) :
    UpOk osb ⟨d, l, c, m, s1, s2, each.toNat, xs, s3, s4⟩ := by
  have h3 : xs.length = bs.length := by rw [← hxs, List.length_map]
  exact ⟨⟨by simp only; omega, by simp only; omega⟩, by simp only; omega, by simp only; omega, hO, by rw [osU_eq (xs := xs) (bs := bs) hxs]; exact hs, hid⟩
theorem StI.start {Lg : Nat → Vw → Nat → Nat → Nat → Dk → Prop} (hp : PIn osb K st) (hcl : cl = true → st.script = [] ∧ st.ups = []) (hL : Lg 0 V0 q c n dk) : StI osb K t cl Lg V0 V1 V2 0 (t.m.id, 0, 0, 0) false V0 q c n dk st (restM t.each (osU t) + 2) := ⟨rfl, hL, .inl ⟨rfl, rfl, rfl, hp, hcl, rfl⟩⟩
theorem StI.zero {Lg : Nat → Vw → Nat → Nat → Nat → Dk → Prop} {s M0 : Nat} (h : StI osb K t cl Lg V0 V1 V2 s a ov V q c n dk st M0) : s = 2 ↔ M0 = 0 := by
  obtain ⟨_, _, ⟨rfl, _, _, _, _, rfl⟩ | ⟨rfl, _, _, _, rfl⟩ | ⟨rfl, _, _, _, _, rfl, _⟩⟩ := h
  · constructor <;> intro h <;> omega
  · constructor <;> intro h <;> omega
  · exact ⟨fun _ => rfl, fun _ => rfl⟩
theorem StI.done {Lg : Nat → Vw → Nat → Nat → Nat → Dk → Prop} {M0 : Nat} (h : StI osb K t cl Lg V0 V1 V2 2 a ov V q c n dk st M0) : V = V2 ∧ Lg 2 V2 q c n dk ∧ PIn osb (K ++ osU t) st ∧ (∀ o ∈ osU t, zAw st.objs o.1 = some o.2) ∧ (cl = true → st.ups = []) := by
  obtain ⟨hV, hl, ⟨h, _⟩ | ⟨h, _⟩ | ⟨_, _, h1, h2, h3, _⟩⟩ := h
  · cases h
  · cases h
  · have hV : V = V2 := hV
    subst hV; exact ⟨rfl, hl, h1, h2, fun hc => (h3 hc).2⟩
theorem StI.gone {Lg : Nat → Vw → Nat → Nat → Nat → Dk → Prop} {M0 : Nat} (h : StI osb K t cl Lg V0 V1 V2 2 a ov V q c n dk st M0) : GoneJ dk := by
  obtain ⟨hV, hl, ⟨h, _⟩ | ⟨h, _⟩ | ⟨_, _, _, _, _, _, h⟩⟩ := h
  · cases h
  · cases h
  · exact h
theorem StI.state {Lg : Nat → Vw → Nat → Nat → Nat → Dk → Prop} {s M0 : Nat} (hL : LgC ad g t Lg V0 V1 V2) (h : StI osb K t cl Lg V0 V1 V2 s a ov V q c n dk st M0) : V.state t.m.id = s ∧ s ≤ 2 := by
  obtain ⟨rfl, _, ⟨rfl, _⟩ | ⟨rfl, _⟩ | ⟨rfl, _⟩⟩ := h
  · exact ⟨hL.s0, by omega⟩
  · exact ⟨hL.s1, by omega⟩
  · exact ⟨hL.s2, by omega⟩
theorem obG_fine {each : Int} {o : Ob} {b : List UInt8} (h1 : 1 ≤ each ∧ each ≤ 1000) (hb : b.length ≤ 256) (hv : zBq o.1.data.toList = true) (hl : o.2.1 = (b.length : Nat)) (hc : o.2.2 = zBz 0 b) : obG each o b = 0 := by
  have hck : obCk o b = 0 := by rw [obCk, if_neg (by rw [hl]; exact fun h => h rfl), if_neg (by rw [hc]; exact fun h => h rfl)]
  have hP := zDk (n := b.length) (e := each.toNat) (by omega); rw [obG, if_neg (by rw [hck]; exact fun h => h rfl), mkR, if_neg (by rw [hv]; decide), if_neg (by omega), if_neg (by omega)]
theorem upF_two {each : Int} {m : Mf} {o1 o2 : Ob} {b1 b2 : List UInt8} (h1 : 1 ≤ each ∧ each ≤ 1000) (hm : (mfF m).1 = 0) (ho : m.obs = [o1, o2]) (g1 : obG each o1 b1 = 0) (g2 : obG each o2 b2 = 0) : (upF each m [b1, b2]).1 = 0 := by
  rw [upF, if_neg (by omega), if_neg (by rw [hm]; exact fun h => h rfl), if_neg (by rw [ho]; exact fun h => h rfl), ho]
  simp [upG, g1, g2]
end
section
open Go.RowKit
def NumPost (b : Nat) (w : World) (e : Ending) (w' : World) : Prop := ∃ r : Nat, r < b ∧ e = .returned (.int .i64 r) ∧ w' = w
def NumLit (b : Int) (w : World) (e : Ending) (w' : World) : Prop := ∃ r : Nat, (r : Int) < b ∧ e = .returned (.int .i64 r) ∧ w' = w
end
section
open Go.RowKit
attribute [local irreducible] zAh eV
variable {g w : World} {L M : List HP} {ad : Nat → Addr} {p u n q c d l : Nat} {dk : Dk} {st : St} {V : Vw}
theorem is_at {is : Bool} {s' M' i k : Nat} (his : is = decide (s' = 2)) (hz : s' = 2 ↔ M' = 0) (hM : M' + i = k) : (!is == decide ((i : Int) = (k : Int))) = false := by
  have h : decide (s' = 2) = decide ((i : Int) = (k : Int)) := decide_eq_decide.2 ⟨fun h => by have := hz.1 h; omega, fun h => hz.2 (by omega)⟩; rw [his, h]
  simp
def bAB : List UInt8 := [97, 98]
def man0 : Mf := { man21 0 bAB [] with obs := (man21 0 bAB []).obs.take 1 }
theorem man0_F : (mfF man0).1 = 0 := by decide +kernel
theorem man21_0F : mfF (man21 0 bAB []) = (0, none) := mkG_F (by decide +kernel) (by decide) (by decide)
theorem man0_up : (upF 10 man0 [bAB]).1 = 0 := by decide +kernel
theorem man0_len : (mfB man0).length ≤ 4000 := by decide +kernel
theorem man0_sum : ∀ o ∈ man0.obs, o.2.2 < 4294967296 := by decide +kernel
def osb0 : List (ByteArray × List UInt8) := osM man0 [bAB]
theorem osb0_F : OsF osb0 := by
  have h0 : osb0 = [(zDr 0 bData 10, bAB)] := rfl; rw [h0]; refine ⟨fun n b b' h1 h2 => ?_, fun n b h => ?_, fun n b h => ?_⟩
  · simp only [List.mem_cons, Prod.mk.injEq, List.not_mem_nil, or_false] at h1 h2
    rw [h1.2, h2.2]
  · simp only [List.mem_cons, Prod.mk.injEq, List.not_mem_nil, or_false] at h
    rw [h.2]; decide
  · simp only [List.mem_cons, Prod.mk.injEq, List.not_mem_nil, or_false] at h
    rw [h.1]; decide +kernel
set_option maxRecDepth 100000 in
set_option maxHeartbeats 4000000 in
theorem first21_sl (hE : ErrU ad g) (hs : Mem g w L) : Calls Tryz.prog 8 #[] w (Ret fun v w' => v = .bool true ∧ Mem g w' L) := by
  refine zAf Tryz.func8 rfl rfl ?_
  skip
  refine zA3 (zA1 ?_); refine zA rfl (zA0 (v := .bool _) rfl) ?_; refine zA6 (zA3 (zA1 ?_)); refine zAb rfl en10 (newd_sl hs (r := 65536) (by decide) (by decide)) ?_; clear hs; rintro _ w ⟨d, rfl, hs⟩; refine zA rfl (zA2 (v := .tuple _) rfl) ?_; refine zA rfl (zAa (v := .pointer (some _)) rfl rfl) ?_; refine zA rfl (zAa (v := .nilIface) rfl rfl) ?_; refine zA rfl (zA0 (v := .pointer (some _)) rfl) ?_; refine zA rfl (zA0 (v := .nilIface) rfl) ?_; refine zA6 ?_; refine zA3 ?_; refine zA3 (zA1 ?_); refine zA rfl (zA2 (v := .pointer (some _)) rfl) ?_; refine zA rfl (zD9 uz25 rfl rfl) ?_; refine zA rfl (zA2 (v := .bool _) rfl) ?_; refine zAi rfl rfl (rfl) ?_
  refine zA rfl (zA2 (v := .nilIface) rfl) ?_; refine zAi rfl rfl (rfl) ?_; refine zA rfl (zCg rfl) ?_; refine zA rfl (zAg (v := .bool _) rfl (rfl) rfl) ?_; refine zA6 ?_; refine zB4 rfl (rfl) ?_; refine zAd ?_; refine zA3 (zA1 ?_); refine zAb rfl en11 (new_sl hs) ?_; clear hs; rintro _ w ⟨sp, rfl, hs⟩; refine zA rfl (zA0 (v := .pointer (some _)) rfl) ?_; refine zA6 (zA3 (zA1 ?_)); refine zA rfl (zA2 (v := .pointer (some _)) rfl) ?_; refine zA rfl (zA2 (v := .pointer (some _)) rfl) ?_; refine zAb rfl en12 (opened_sl hE.uM hE.uG (hs.arr [1, 0] 2 (by decide)) (N := UpN) (B := 9000) (RawI.start (by decide)) up_mt up_sn rfl (by decide) rfl rfl (tr := 1) (by decide)) ?_; clear hs
  rintro _ w ⟨l, c, dk2, rfl, k1, k2, k3, k4, hs⟩; refine zA rfl (zA2 (v := .tuple _) rfl) ?_; refine zA rfl (zAa (v := .pointer (some _)) rfl rfl) ?_; refine zA rfl (zAa (v := .pointer (some _)) rfl rfl) ?_; refine zA rfl (zA0 (v := .pointer (some _)) rfl) ?_; refine zA rfl (zA0 (v := .pointer (some _)) rfl) ?_; refine zA6 ?_; refine zA3 ?_; refine zA3 (zA1 ?_); refine zA rfl (zA2 (v := .pointer (some _)) rfl) ?_; refine zA rfl (zD9 uz32 rfl rfl) ?_; refine zA6 ?_; refine zB4 rfl (rfl) ?_; refine zAd ?_; refine zA3 (zA1 ?_); refine zB1 hs rfl ([.int .u8 97, .int .u8 98]) zCk zs5 rfl (by simp [Value.cells]) rfl rfl rfl ?_; clear hs; intro b33 w hs
  try simp only [zzs, zzz] at hs
  refine lw_constBytes hs rfl 0 rfl rfl zCk uz5 rfl ?_; clear hs; intro w hs
  try simp only [zzs, zzz] at hs
  refine zAb rfl en13 (man21_sl hs (id := 0) (x := bAB) (y := []) (by decide) (Rd.rd 0 rfl) Rd.nil (by decide) (by decide) man21_0F) ?_; clear hs; rintro _ w ⟨s1, s2, rfl, hs⟩; refine zBn hs rfl ze39 ?_; clear hs; intro b6 w hs
  try simp only [zzs, zzz] at hs
  refine zAn hs 0 rfl rfl rfl zF2 rfl rfl ?_; clear hs; intro w hs
  try simp only [zzs, zzz] at hs
  refine zA6 ?_; refine zA3 ?_; obtain ⟨s2a, s2c⟩ := s2; have hcap : 2 ≤ s2c := (RdK.row (k := 3) (v := .slice s2a 2 s2c) (rows := (man21 0 bAB []).obs.map obL) 2 rfl).cap hs; obtain ⟨b2, o2, rfl⟩ := (RdK.row (k := 3) (v := .slice s2a 2 s2c) (rows := (man21 0 bAB []).obs.map obL) 2 rfl).at hs (by decide); refine zA1 ?_; refine zA rfl (zA4 (o' := 5) zCb rfl sz37 rfl rfl rfl) ?_; refine zA rfl (zA7 zDf rfl rfl (hs.cellAt 0 rfl rfl)) ?_; refine zA rfl (run_sliceToK zDf sz66 rfl rfl (hi := 1) rfl (by omega) (.inr ⟨_, _, rfl⟩)) ?_; refine zA rfl (zA4 (o' := 5) zCb rfl sz37 rfl rfl rfl) ?_; refine zB5 (v := .slice _ _ _) hs 0 rfl sz37 rfl rfl rfl rfl ?_; clear hs; intro w hs
  try simp only [zzs, zzz] at hs
  refine zA6 ?_; replace hs : Mem g w (cells b6 (mfL man0 s1 (some ⟨b2, o2, none⟩, s2c)) 39 :: zEy 2 (.slice s1.1 man0.eps.length s1.2) (man0.eps.map prL) :: zEy 3 (.slice (some ⟨b2, o2, none⟩) (man21 0 bAB []).obs.length s2c) ((man21 0 bAB []).obs.map obL) :: rd (.slice (some ⟨b33, 0, none⟩) 2 2) (zAm bAB) :: zBf c sp 1 0 :: zDl l d 3 [] 0 0 0 :: zBc d dk2 :: zB8 sp St.empty :: L) := hs; refine zA3 (zA1 ?_); refine zA rfl (zA2 (v := .pointer (some _)) rfl) ?_; refine zA rfl (zA2 (v := .pointer (some _)) rfl) ?_; refine zA rfl (zA2 (v := .pointer (some _)) rfl) ?_; refine zA rfl (zBy hs 0 (mfL man0 s1 (some ⟨b2, o2, none⟩, s2c)) rfl zCb zF2 rfl rfl) ?_
  refine zB1 hs rfl ([.int .u8 97, .int .u8 98]) zCk zs5 rfl (by simp [Value.cells]) rfl rfl rfl ?_; clear hs; intro b45 w hs
  try simp only [zzs, zzz] at hs
  refine lw_constBytes hs rfl 0 rfl rfl zCk uz5 rfl ?_; clear hs; intro w hs
  try simp only [zzs, zzz] at hs
  refine zB1 hs rfl ([bV (bAB, (some ⟨b45, 0, none⟩, 2))]) zG1 zs22 rfl (fun u hu => (by simp only [List.mem_cons, List.not_mem_nil, or_false] at hu; subst hu; rfl)) rfl rfl rfl ?_; clear hs; intro b47 w hs
  try simp only [zzs, zzz] at hs
  refine zAb rfl en15 (upNew_sl hE (hs.arr [7, 8, 0, 1, 2, 3, 4, 5, 6, 9] 10 (by decide)) (each := 10) (inI (by omega) (by omega)) (m := man0) (e := s1) (o := (some ⟨b2, o2, none⟩, s2c)) ⟨RdK.row 3 rfl, (RdK.row (k := 3) (v := .slice (some ⟨b2, o2, none⟩) 2 s2c) (rows := (man21 0 bAB []).obs.map obL) 4 rfl).take (hi := 1) (by decide)⟩ (by decide) (fun _ => by decide) (bl := [(bAB, (some ⟨b45, 0, none⟩, 2))]) (Rd.cells 0 rfl rfl) (fun x hx => by simp only [List.mem_cons, List.not_mem_nil, or_false] at hx; subst hx; exact Rd.rd 1 rfl) (fun x hx => by simp only [List.mem_cons, List.not_mem_nil, or_false] at hx; subst hx; show 2 ≤ 1048576; decide) (is := false) (z := (0, 0, 0, 0)) (k4.jnone up_up (zFy _ _ mt_up.symm)) (by decide)) ?_
  clear hs; rintro _ w hN; obtain ⟨u, t1, t2, xs, s3, s4, rfl, hxs, hs⟩ := hN.fine man0_up (show (0 : Int) < 2 by decide) (.inl rfl); refine zA rfl (zA2 (v := .tuple _) rfl) ?_; refine zA rfl (zAa (v := .pointer (some _)) rfl rfl) ?_; refine zA rfl (zAa (v := .nilIface) rfl rfl) ?_; refine zA rfl (zA0 (v := .pointer (some _)) rfl) ?_; refine zA rfl (zA0 (v := .nilIface) rfl) ?_; refine zA6 ?_; refine zA3 ?_; refine zA3 (zA1 ?_); refine zA rfl (zA2 (v := .pointer (some _)) rfl) ?_; refine zA rfl (zD9 uz47 rfl rfl) ?_; refine zA rfl (zA2 (v := .bool _) rfl) ?_; refine zAi rfl rfl rfl ?_; refine zA rfl (zA2 (v := .nilIface) rfl) ?_; refine zAi rfl rfl rfl ?_; refine zA rfl (zCg rfl) ?_
  refine zA rfl (zAg (v := .bool _) rfl rfl rfl) ?_; refine zA6 ?_; refine zB4 rfl (rfl) ?_; refine zAd ?_; refine zA3 ?_; refine zA3 ?_; have hU : UpOk osb0 ⟨d, l, c, man0, t1, t2, 10, xs, s3, s4⟩ := upOk_mk (each := 10) (bs := [bAB]) (by omega) hxs rfl (by decide) osb0_F (fun o h => h) (by decide); have hL : LgC ad g ⟨d, l, c, man0, t1, t2, 10, xs, s3, s4⟩ (UgN 9000 65536 ((mfB man0).length + 17)) [] [(man0.id, ⟨1, man0⟩)] [(man0.id, ⟨2, man0⟩)] := lgN hE.uM rfl (by have := man0_len; omega) (by decide) (by decide) man0_F (show man0.obs.length ≤ 1000000 by decide) man0_sum
  obtain ⟨R, hR⟩ : ∃ R, R = cells b6 (mfL man0 s1 (some ⟨b2, o2, none⟩, s2c)) 39 :: zEy 2 (.slice s1.1 man0.eps.length s1.2) (man0.eps.map prL) :: zEy 3 (.slice (some ⟨b2, o2, none⟩) (man21 0 bAB []).obs.length s2c) ((man21 0 bAB []).obs.map obL) :: L := ⟨_, rfl⟩
  replace hs : Mem g w (UpC u ⟨d, l, c, man0, t1, t2, 10, xs, s3, s4⟩ (man0.id, 0, 0, 0) false :: zBf c sp ((0 + 1 : Nat) : Int) ((0 : Nat) : Int) :: zB8 sp St.empty :: zDl l d 3 [] 0 0 0 :: zBc d dk2 :: R) := by rw [hR]; exact hs.arr [0, 9, 10, 1, 2, 5, 6, 7] 11 (by decide)
  have hosu : osU (⟨d, l, c, man0, t1, t2, 10, xs, s3, s4⟩ : UpT) = osb0 := osU_eq (xs := xs) (bs := [bAB]) hxs; refine zA1 ?_; refine zA rfl (zA0 (v := .int .i64 _) rfl) ?_; refine zA6 ?_; refine zAo ?_
  refine zBr (X := Nat) [0, 9, 10, 11, 57, 58, 59, 60, 61, 62, 63, 64, 65, 66, 67, 68, 69, 70, 71, 72, 73] (fun i => [(9, .int .i64 (i : Nat))]) (fun i w => (1 ≤ i ∧ i ≤ 6) ∧ ∃ ak s a ov V q c' n dk st M, StI osb0 [] ⟨d, l, c, man0, t1, t2, 10, xs, s3, s4⟩ true (UgN 9000 65536 ((mfB man0).length + 17)) [] [(man0.id, ⟨1, man0⟩)] [(man0.id, ⟨2, man0⟩)] s a ov V q c' n dk st M ∧ M + i = 6 ∧ Bnd (100 * i) ak st dk ∧ Mem g w (UpC u ⟨d, l, c, man0, t1, t2, 10, xs, s3, s4⟩ a ov :: zBf c sp ((0 + 1 : Nat) : Int) (ak : Nat) :: zB8 sp st :: zDl l d 3 V q c' n :: zBc d dk :: R)) (fun i => 6 - i) (1) ?_ ?_ ?_
  · exact ⟨rfl, trivial⟩
  · exact ⟨⟨by omega, by omega⟩, 0, 0, _, false, [], 0, 0, 0, dk2, St.empty, _, StI.start (PIn.empty []) (fun _ => ⟨rfl, rfl⟩) (UgN.zero k4 k1 k2), by rw [hosu]; show restM 10 osb0 + 2 + 1 = 6; decide, ⟨by decide, by decide, by decide, by decide, by simp [Dk.empty] at k3; omega⟩, hs⟩
  clear hs; rintro x ξ w hI; obtain ⟨hi, ak, s, a, ov, V, q, c', n, dk, st, M, hI, hM, hB, hs⟩ := hI; refine zA3 ?_; refine zA3 (zA1 ?_); refine zA rfl (zA2 (v := .int .i64 _) rfl) ?_; refine zA rfl (zDx rfl rfl) ?_; refine zA6 ?_; refine zB rfl ?_ ?_
  ·
   intro h58; have g58 := of_decide_eq_true h58; refine zAd ?_; refine zA3 ?_; refine zAo ?_; refine zA3 (zA1 ?_); refine zA rfl (zA2 (v := .pointer (some _)) rfl) ?_; refine zAb rfl en16 (upStep hE hU (K := []) (fun x hx => by cases hx) hL hI hB (by omega) (tr := 0) (by omega) hs) ?_; clear hs; rintro _ w ⟨is, y, s', a', ov', V', q', c3, n', dk', st', ak', M', rfl, hI', hB', hy, his, hle, hlt, hcl, hs⟩; obtain ⟨rfl, hM'⟩ := hcl rfl; refine zA rfl (zA2 (v := .tuple _) rfl) ?_; refine zA rfl (zAa (v := .bool _) rfl rfl) ?_; refine zA rfl (zAa (v := zAh ad _) rfl rfl) ?_; refine zA rfl (zA0 (v := .bool _) rfl) ?_; refine zA rfl (zA0 (v := zAh ad _) rfl) ?_; refine zA6 (zA3 (zA1 ?_))
   refine zA rfl (zA2 (v := zAh ad _) rfl) ?_; refine zA rfl (zAx (ad := ad) rfl) ?_; refine zA rfl (zA2 (v := .bool _) rfl) ?_; refine zAi rfl rfl (rfl) ?_; refine zA rfl (zA2 (v := .bool _) rfl) ?_; refine zAi rfl rfl (rfl) ?_; refine zA rfl (zA2 (v := .int .i64 _) rfl) ?_; refine zAi rfl rfl (rfl) ?_; refine zA rfl (zBo rfl rfl) ?_; refine zAi rfl rfl (rfl) ?_; refine zA rfl (run_neb uz4 rfl rfl) ?_; refine zA rfl (zAg (v := .bool _) rfl (rfl) rfl) ?_; refine zA6 ?_; refine zB4 rfl ((is_at (k := 5) his hI'.zero (by omega))) ?_; refine zAd ?_; refine zA1 ?_; refine zA rfl (zA2 (v := .int .i64 _) rfl) ?_; refine zA rfl (zAu rfl rfl rfl (inI (by omega) (by omega))) ?_
   refine zA rfl (zA0 (v := .int .i64 _) rfl) ?_; refine zA6 ?_; exact ⟨x + 1, by omega, ⟨⟨by omega, by omega⟩, ak', s', a', ov', V', q', c3, n', dk', st', M', hI', by omega, hB', hs⟩, ⟨rfl, trivial⟩, by repeat (first | exact Out.mix _ _ _ | refine Out.updo rfl ?_ | refine Out.upd rfl ?_ | refine Out.mixIn rfl ?_)⟩
  ·
   intro h58; have g58 := of_decide_eq_false h58; obtain rfl : s = 2 := hI.zero.2 (by omega); obtain ⟨rfl, hlg, hp, hobs, _⟩ := hI.done; subst hR; refine zBp rfl ?_; refine zA3 (zA1 ?_); refine zA rfl (zA2 (v := .pointer (some _)) rfl) ?_; refine zA rfl (zA4 (o' := 5) zCb rfl sz37 rfl rfl rfl) ?_; refine zA rfl (zA7 zDf rfl rfl (hs.cellAt 5 rfl rfl)) ?_; refine zA rfl (zAs zDf sz66 rfl rfl (i := 0) rfl (by decide) rfl) ?_; refine zA rfl (zA4 uz66 rfl sz9 rfl rfl rfl) ?_; refine zA rfl (zA7 uz9 rfl rfl ((RdK.row (k := 3) (v := .slice (some ⟨b2, o2, none⟩) 2 s2c) (rows := (man21 0 bAB []).obs.map obL) 7 rfl).cell hs (q := 0) rfl (j := 0) rfl)) ?_
   refine zAb rfl en39 (bytes_sl (hs.arr [2, 0, 1, 3, 4, 5, 6, 7] 8 (by decide)) hp.small (zDr 0 bData 10) (o := some bAB) (hobs (zDr 0 bData 10, bAB) (by rw [hosu]; exact List.mem_cons_self ..))) ?_; clear hs; rintro _ w ⟨a81, c81, rfl, hs⟩; obtain ⟨b81, o81, rfl, _⟩ := hs.ownCells 0 rfl (by decide); refine zA rfl (zA2 (v := .tuple _) rfl) ?_; refine zA rfl (zAa (v := .slice _ _ _) rfl rfl) ?_; refine zA rfl (zAa (v := .bool _) rfl rfl) ?_; refine zA rfl (zA0 (v := .slice _ _ _) rfl) ?_; refine zA rfl (zA0 (v := .bool _) rfl) ?_; refine zA6 (zA3 (zA1 ?_)); refine zA rfl (zA2 (v := .bool _) rfl) ?_; refine zA rfl (zA2 (v := .bool _) rfl) ?_; refine zAi rfl rfl (rfl) ?_
   refine zA rfl (zA2 (v := .slice _ _ _) rfl) ?_; refine zAi rfl rfl (rfl) ?_; refine zA rfl (run_bytesStr zCk uz5 uz9 rfl (l := bAB) rfl (fun j v hj => hs.ownAt 0 rfl hj)) ?_; refine zAi rfl rfl (rfl) ?_; refine zA rfl (run_eqs rfl rfl) ?_; refine zA rfl (zAk (v := .bool _) rfl (rfl) rfl) ?_; refine zA rfl (zA2 (v := .bool _) rfl) ?_; refine zAi rfl rfl (rfl) ?_; refine zA rfl (zA2 (v := .pointer (some _)) rfl) ?_; refine zAi rfl rfl (rfl) ?_; refine zAb rfl en19 (zG4 (hs.arr [4, 0, 1, 2, 3, 5, 6, 7, 8] 9 (by decide))) ?_; clear hs; rintro _ w ⟨v92, rfl, hs⟩; refine zAi rfl rfl (rfl) ?_; refine zAb rfl en20 (zFd hs 0) ?_; clear hs; rintro _ w ⟨rfl, hs⟩; refine zAi rfl rfl (rfl) ?_
   refine zA rfl (zBo rfl rfl) ?_; refine zA rfl (zAk (v := .bool _) rfl (rfl) rfl) ?_; refine zA rfl (zA0 (v := .bool _) rfl) ?_; refine zA6 ?_; refine zAc ?_; refine zBd (v := .bool _) rfl rfl ?_; exact ⟨_, rfl, by rw [show Vw.state [(man0.id, (⟨2, man0⟩ : Itm))] 0 = 2 from rfl]; rfl, hs.suffix 10 rfl⟩
end
section
open Go.RowKit
attribute [local irreducible] zAh eV
variable {g w : World} {L M : List HP} {ad : Nat → Addr} {p u n q c d l id : Nat} {dk : Dk} {st : St} {x y : List UInt8} {s1 s2 s3 s4 : SA} {xs : List (List UInt8 × SA)} {V V0 V1 V2 : Vw} {K osb : List (ByteArray × List UInt8)} {a : S4} {cl : Bool} {t : UpT}
structure TwoOk (id : Nat) : Prop where
  h0 : mfF ⟨id, (10 : Nat), 20, 5, [(1, 10)], [(zDr id bData 10, 0, 0), (zDr id zFa 10, 0, 0)]⟩ = (0, none)
  ne : zDr id bData 10 ≠ zDr id zFa 10
  v1 : zBq (zDr id bData 10).data.toList = true
  v2 : zBq (zDr id zFa 10).data.toList = true
  le : id ≤ 2147483647
def twoOs (id : Nat) (x y : List UInt8) : List (ByteArray × List UInt8) := [(zDr id bData 10, x), (zDr id zFa 10, y)]
theorem TwoOk.mf (h : TwoOk id) (hx : x.length ≤ 256) (hy : y.length ≤ 256) : mfF (man21 id x y) = (0, none) := mkG_F h.h0 (by omega) (by omega)
theorem TwoOk.up (h : TwoOk id) (hx : x.length ≤ 256) (hy : y.length ≤ 256) {each : Int} (he : 1 ≤ each ∧ each ≤ 1000) : (upF each (man21 id x y) [x, y]).1 = 0 :=
  upF_two he (by rw [h.mf hx hy]) rfl (obG_fine he hx h.v1 rfl rfl) (obG_fine he hy h.v2 rfl rfl)
theorem two_all {α : Type} {P : α → Prop} {z1 z2 : α} (h1 : P z1) (h2 : P z2) : ∀ z ∈ [z1, z2], P z := fun z hz => by
  simp only [List.mem_cons, List.not_mem_nil, or_false] at hz
  rcases hz with rfl | rfl
  · exact h1
  · exact h2
theorem quo_parts (n e : Nat) : ((n : Int) + ((e + 1 : Nat) : Int) - 1) / ((e + 1 : Nat) : Int) = ((zB2 n (e + 1) : Nat) : Int) := by
  have h : (n : Int) + ((e + 1 : Nat) : Int) - 1 = ((n + (e + 1) - 1 : Nat) : Int) := by omega
  rw [h]
  rfl
theorem StI.at {Lg : Nat → Vw → Nat → Nat → Nat → Dk → Prop} {s M0 : Nat} {ov : Bool} (hU : UpOk osb t) (h : StI osb K t cl Lg V0 V1 V2 s a ov V q c n dk st M0) (hs : s ≠ 2) : ∃ (k done : Nat) (uid : Int), a = (t.m.id, (k : Int), uid, (done : Int)) ∧ k ≤ t.xs.length ∧ (done = 0 ∨ ∃ o ∈ osU t, done ≤ zB2 o.2.length t.each) := by
  obtain ⟨_, _, ⟨rfl, _, rfl, _⟩ | ⟨rfl, _, M1, hob, _⟩ | ⟨rfl, _⟩⟩ := h
  · exact ⟨0, 0, 0, rfl, Nat.zero_le _, .inl rfl⟩
  · rcases hob with ⟨k, o, uid, done, m, ho, rfl, _, hph, _⟩ | ⟨rfl, _⟩
    · have h1 := (List.getElem?_eq_some_iff.1 ho).1
      rw [osU_len hU] at h1; exact ⟨k, done, uid, rfl, by omega, .inr ⟨o, List.mem_of_getElem? ho, hph.le.2.2.1⟩⟩
    · rw [osU_len hU]
      exact ⟨_, 0, 0, rfl, Nat.le_refl _, .inl rfl⟩
  · exact absurd rfl hs
end
section
set_option maxRecDepth 100000
theorem headMay : Tryz.prog.mayEnter = true := by kernel_rfl
theorem headLifts : (Rows.upTwoRow.lifted == Tryz.prog.liftsFinal) = true := by kernel_rfl
theorem headMake : (Tryz.prog.make == some Rows.upTwoRow.make) = true := by kernel_rfl
theorem both_true {a b : Bool} (ha : a = true) (hb : b = true) : (a && b) = true := by rw [ha, hb]; rfl
end
end Go.Proofs.YthejaanobeonnaaGreatDoor
