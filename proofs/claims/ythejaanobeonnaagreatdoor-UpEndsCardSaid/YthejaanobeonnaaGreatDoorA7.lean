/- up.New. The document's Make; the manifests of the statements. Sweeps: the views of the statements, orphans. An upload's log where it is new: what it answers. What the statements make: manifests with blobs, a log and a client. Small functions of the statements: Number, SameBytes. The statements' own: laid, ends, the examples. The statements' manifests: two objects. The store, over chunks: Open. Closed facts on the program's head, that each row of this seat asks for. -/
import Derived.Test.YthejaanobeonnaaGreatDoorA6
import Derived.Test.YthejaanobeonnaaGreatDoorA4
import Derived.Test.YthejaanobeonnaaGreatDoorA2
import Derived.Test.YthejaanobeonnaaGreatDoorA5
import Derived.Test.YthejaanobeonnaaGreatDoorA3
import Derived.Test.YthejaanobeonnaaGreatDoorRows
import Derived.JoinedOf
import Derived.ProofKit
set_option linter.all false
namespace Go.Proofs.YthejaanobeonnaaGreatDoor
section
open Go.RowKit
attribute [local irreducible] zAk eV
variable {g w : World} {L M : List HP} {ad : Nat → Addr} {p u d l c ev n q cc : Nat} {dk : Dk} {V : Vw}
theorem zsPl : (Tryz.prog.info? 109).map (fun i => (i.zero, i.size)) = some (some (.agg #[.string ByteArray.empty, .int .i64 0, .int .u32 0, .int .i64 0, .int .i64 0]), 5) := by kernel_rfl
theorem fill_plan (nm : ByteArray) (a b e f : Int) : Instr.fill (fun i => some (i * 5, 5)) ((Array.range (1 * 5)).map ((Value.agg #[.string ByteArray.empty, .int .i64 0, .int .u32 0, .int .i64 0, .int .i64 0]).cells[· % (Value.agg #[.string ByteArray.empty, .int .i64 0, .int .u32 0, .int .i64 0, .int .i64 0]).cells.size]!)) [(0, .agg (planC nm a b e f).toArray)] = some (planC nm a b e f).toArray := by kernel_rfl
def upTo (d l c E : Nat) (m : Mf) (s1 s2 : SA) (x : Nat × List (List UInt8 × SA) × SA × SA) : UpT := ⟨d, l, c, m, s1, s2, E, x.2.1, x.2.2.1, x.2.2.2⟩
def NewR (ad : Nat → Addr) (g : World) (each : Int) (m : Mf) (bs : List (List UInt8)) (V : Vw) (d l c : Nat) (is : Bool) (z : S4) (R : List HP) (v : Value) (w' : World) : Prop :=
  ((upF each m bs).1 ≠ 0 ∧ ∃ eb, v = .tuple #[.pointer none, flV ad (upF each m bs) eb] ∧ Mem g w' (flC ad (upF each m bs) eb :: R)) ∨
  ((upF each m bs).1 = 0 ∧ 2 ≤ V.state m.id ∧ v = .tuple #[.pointer none, zAk ad 113] ∧ Mem g w' R) ∨
  ((upF each m bs).1 = 0 ∧ V.state m.id < 2 ∧ ∃ u s1 s2 xs s3 s4, v = .tuple #[.pointer (some ⟨u, 0, none⟩), .nilIface] ∧ xs.map (·.1) = bs ∧ Mem g w' (UpC u ⟨d, l, c, m, s1, s2, each.toNat, xs, s3, s4⟩ (if is = true ∧ z.1 = m.id ∧ V.state m.id = 1 ∧ fitsB each.toNat bs z = true then z else (m.id, 0, 0, 0)) false :: R))
theorem Mem.noPlans {b E : Nat} {m : Mf} {s1 s2 : SA} {L : List HP} (hs : Mem g w (cells b (upL (upZ d l c E m s1 s2) (m.id, 0, 0, 0) false) 106 :: zEp 2 (.slice s1.1 m.eps.length s1.2) (m.eps.map prL) :: zEp 3 (.slice s2.1 m.obs.length s2.2) (m.obs.map obL) :: own (.slice none 0 0) [] :: zEp 5 (.slice none 0 0) [] :: Go.Proofs.YthejaanobeonnaaGreatDoor.stars [] :: L)) : Mem g w (ucO b (upTo d l c E m s1 s2 (0, [], (none, 0), (none, 0))) (m.id, 0, 0, 0) false L) := by
  have h0 : zCb E m.obs [] = [] := by simp [zCb]
  show Mem g w (upP b (upTo d l c E m s1 s2 (0, [], (none, 0), (none, 0))) (m.id, 0, 0, 0) false :: zEp 2 (.slice s1.1 m.eps.length s1.2) (m.eps.map prL) :: zEp 3 (.slice s2.1 m.obs.length s2.2) (m.obs.map obL) :: own (.slice none 0 0) [] :: zEp 5 (.slice none 0 0) (zCb E m.obs []) :: Go.Proofs.YthejaanobeonnaaGreatDoor.stars [] :: L)
  rw [h0]; exact hs
theorem zip_snoc {α β : Type} {o : α} {z : β} : ∀ {os : List α} {xs : List β}, os[xs.length]? = some o → os.zip (xs ++ [z]) = os.zip xs ++ [(o, z)]
  | [], _, h => by simp at h
  | a :: os, [], h => by simp at h; subst h; simp
  | a :: os, x :: xs, h => by
    have h : os[xs.length]? = some o := by simpa using h
    simp [zip_snoc h]
theorem plans_more {E : Nat} {os : List Ob} {xs : List (List UInt8 × SA)} {o : Ob} {z : List UInt8 × SA} (h : os[xs.length]? = some o) : zCb E os xs ++ [zEi E o z.1] = zCb E os (xs ++ [z]) := by
  unfold zCb
  rw [zip_snoc h, List.map_append]
  rfl
theorem Mem.moreUp {b E k n3 n4 : Nat} {m : Mf} {s1 s2 b3 b4 c3 c4 : SA} {xs : List (List UInt8 × SA)} {z : List UInt8 × SA} {R : List HP} {R3 : List Value} {R5 : List (List Value)} (h3 : n3 = (xs ++ [z]).length) (h4 : n4 = (xs ++ [z]).length) (h5 : R5 = zCb E m.obs (xs ++ [z])) (h6 : R3 = (xs ++ [z]).map bV)
    (hs : Mem g w (Go.Proofs.YthejaanobeonnaaGreatDoor.stars ((xs ++ [z]).map bC) :: cells b (((upL (upTo d l c E m s1 s2 (k, xs, c3, c4)) (m.id, 0, 0, 0) false).set 10 (.slice b4.1 n4 b4.2)).set 9 (.slice b3.1 n3 b3.2)) 106 :: zEp 2 (.slice s1.1 m.eps.length s1.2) (m.eps.map prL) :: zEp 3 (.slice s2.1 m.obs.length s2.2) (m.obs.map obL) :: own (.slice b3.1 n3 b3.2) R3 :: zEp 5 (.slice b4.1 n4 b4.2) R5 :: R)) : Mem g w (ucO b (upTo d l c E m s1 s2 (k + 1, xs ++ [z], b3, b4)) (m.id, 0, 0, 0) false R) := by
  subst h3 h4 h5 h6; exact hs.arr [1, 2, 3, 4, 5, 0] 6 (by decide)
abbrev newH (A B C : HP) (t : UpT) (L : List HP) : List HP := A :: B :: zEp 2 (.slice t.s1.1 t.m.eps.length t.s1.2) (t.m.eps.map prL) :: zEp 3 (.slice t.s2.1 t.m.obs.length t.s2.2) (t.m.obs.map obL) :: stars (t.xs.map bC) :: C :: L
set_option maxRecDepth 100000 in
set_option maxHeartbeats 4000000 in
theorem upNew_sl (hE : ErrU ad g) (hs : Mem g w (zDl l d ev V q cc n :: zBc d dk :: L)) {each : Int} (hea : zDf each) {m : Mf} {e o : SA} (hm : MfR g L m e o) (hob : m.obs.length ≤ 1000000) (heps : m.eps.length ≤ 1000000) {ab : Option Addr} {cb : Nat} {bl : List (List UInt8 × SA)} (hb : Rd g L (.slice ab bl.length cb) (bl.map bV)) (hbr : ∀ x ∈ bl, Rd g L (bV x) (zAm x.1)) (hbl : ∀ x ∈ bl, x.1.length ≤ 1048576) {is : Bool} {z : S4} (hj : jst (dk.pread nUp) = (0, is, z.1, z.2.1, z.2.2.1, z.2.2.2)) (hz : 0 ≤ z.2.1) :
    Calls Tryz.prog 15 #[.pointer (some ⟨d, 0, none⟩), .pointer (some ⟨l, 0, none⟩), .pointer (some ⟨c, 0, none⟩), .int .i64 each, .agg (mfL m e o).toArray, .slice ab bl.length cb] w (Ret (NewR ad g each m (bl.map (·.1)) V d l c is z (zDl l d ev V q cc n :: zBc d dk :: L))) := by
  obtain ⟨ea, ec⟩ := e; obtain ⟨oa, oc⟩ := o; obtain ⟨z1, z2, z3, z4⟩ := z; simp only at hj hz; have hb0 : (bl.map (·.1)).length = bl.length := List.length_map ..; refine zAi Tryz.func15 rfl rfl ?_
  skip
  refine zA3 (zA2 ?_); refine zBh (v := .agg _) hs rfl rfl ?_; clear hs; intro b10 w hs
  try simp only [zzs, zzz] at hs
  refine zA rfl (zA0 (v := .pointer none) rfl) ?_; refine zA rfl (zA0 (v := .nilIface) rfl) ?_; refine zA6 ?_; refine zA3 ?_; refine zA3 (zA2 ?_); refine zA rfl (zA1 (v := .int .i64 _) rfl) ?_; refine zA rfl (zBa rfl rfl) ?_; refine zA rfl (zA1 (v := .bool _) rfl) ?_; refine zB (t := _) (d := 26) rfl ?_ ?_
  ·
   intro h25; have g25 := of_decide_eq_true h25; refine zA9 rfl rfl rfl h25 ?_; refine zA9 rfl rfl rfl h25 ?_; refine zA rfl (zAj (v := .bool _) rfl h25 rfl) ?_; refine zA6 ?_; refine zB9 rfl rfl ?_; refine zA3 ?_; refine zAo zBm hs ?_; intro w tr hK; replace hs := tr _ hs; clear tr; refine zA5 0 rfl rfl (fun w hs => zA7 zCf rfl rfl (hE.cellW hs 105 (by decide) rfl)) hK ?_; refine zA5 1 rfl rfl (fun w hs => zA0 (v := .pointer none) rfl) hK ?_; refine zA5 2 rfl rfl (fun w hs => zA0 (v := zAk ad _) rfl) hK ?_; refine zAs (by kernel_rfl) ?_; clear hK; refine zAc ?_; refine zDy (v := .pointer none) (v2 := zAk ad _) rfl rfl rfl ?_
   have hF : upF each m (bl.map (·.1)) = (105, none) := by rw [upF, if_pos (by omega)]
   refine ⟨_, rfl, Or.inl ?_⟩; rw [hF]; exact ⟨by decide, 0, rfl, hs.tail.addE (emp_okF _)⟩
  ·
   intro h25; have g25 := of_decide_eq_false h25; refine zAg rfl rfl h25 ?_; refine zA rfl (zA1 (v := .int .i64 _) rfl) ?_; refine zAg rfl rfl h25 ?_; refine zA rfl (zBn rfl rfl) ?_; refine zA rfl (zAf (v := .bool _) rfl h25 rfl) ?_; refine zA6 ?_; refine zB1 rfl ?_ ?_
   ·
    intro h28; have g28 := of_decide_eq_true h28; refine zA3 ?_; refine zAo zBm hs ?_; intro w tr hK; replace hs := tr _ hs; clear tr; refine zA5 0 rfl rfl (fun w hs => zA7 zCf rfl rfl (hE.cellW hs 105 (by decide) rfl)) hK ?_; refine zA5 1 rfl rfl (fun w hs => zA0 (v := .pointer none) rfl) hK ?_; refine zA5 2 rfl rfl (fun w hs => zA0 (v := zAk ad _) rfl) hK ?_; refine zAs (by kernel_rfl) ?_; clear hK; refine zAc ?_; refine zDy (v := .pointer none) (v2 := zAk ad _) rfl rfl rfl ?_
    have hF : upF each m (bl.map (·.1)) = (105, none) := by rw [upF, if_pos (by omega)]
    refine ⟨_, rfl, Or.inl ?_⟩; rw [hF]; exact ⟨by decide, 0, rfl, hs.tail.addE (emp_okF _)⟩
   ·
    intro h28; have g28 := of_decide_eq_false h28; refine zAd ?_; refine zA3 ?_; refine zA3 (zA2 ?_); refine zA rfl (zBy hs 0 (mfL m (ea, ec) (oa, oc)) rfl zCe zEe rfl rfl) ?_; refine zAb rfl en45 (validM_sl hE.uV (x := m) (e := (ea, ec)) (o := (oa, oc)) hs hm.cons.cons.cons hob) ?_; clear hs; rintro _ w ⟨eb, rfl, hs⟩; refine zA rfl (zA0 (v := flV ad _ _) rfl) ?_; refine zA6 (zA3 (zA2 ?_)); refine zA rfl (zA1 (v := flV ad _ _) rfl) ?_; refine zA rfl (run_neF (mfF_ok m).place rfl) ?_; refine zA6 ?_; refine zB1 rfl ?_ ?_
    ·
     intro h34; have g34 := zF0 h34
     have h0 : (mfF m).1 ≠ 0 := by simpa using h34
     refine zA3 (zA2 ?_); refine zA rfl (zA1 (v := flV ad _ _) rfl) ?_; refine zA rfl (zA0 (v := .pointer none) rfl) ?_; refine zA rfl (zA0 (v := flV ad _ _) rfl) ?_; refine zA6 ?_; refine zAc ?_; refine zDy (v := .pointer none) (v2 := flV ad _ _) rfl rfl rfl ?_
     have hF : upF each m (bl.map (·.1)) = mfF m := by rw [upF, if_neg (by omega), if_pos h0]
     refine ⟨_, rfl, Or.inl ?_⟩; rw [hF]; exact ⟨h0, eb, rfl, hs.arr [0, 2, 3] 4 (by decide)⟩
    ·
     intro h34; have g34 := zF1 h34
     have h0 : (mfF m).1 = 0 := by simpa using h34
     replace hs := hs.tail; refine zAd ?_; refine zA3 ?_; refine zA3 (zA2 ?_); refine zA rfl (zA1 (v := .slice _ _ _) rfl) ?_; refine zA rfl (zAv zGa rfl) ?_; refine zA rfl (zA4 (o' := 5) zCe rfl sz37 rfl rfl rfl) ?_; refine zA rfl (zA7 zDv rfl rfl (hs.cellAt 0 rfl rfl)) ?_; refine zA rfl (zAv zDv rfl) ?_; refine zA rfl (zDp rfl rfl) ?_; refine zA6 ?_; refine zB1 rfl ?_ ?_
     ·
      intro h41; have g41 := zF0 h41; refine zA3 ?_; refine zAo zBm hs ?_; intro w tr hK; replace hs := tr _ hs; clear tr; refine zA5 0 rfl rfl (fun w hs => zA7 zCf rfl rfl (hE.cellW hs 103 (by decide) rfl)) hK ?_; refine zA5 1 rfl rfl (fun w hs => zA0 (v := .pointer none) rfl) hK ?_; refine zA5 2 rfl rfl (fun w hs => zA0 (v := zAk ad _) rfl) hK ?_; refine zAs (by kernel_rfl) ?_; clear hK; refine zAc ?_; refine zDy (v := .pointer none) (v2 := zAk ad _) rfl rfl rfl ?_
      have hF : upF each m (bl.map (·.1)) = (103, none) := by rw [upF, if_neg (by omega), if_neg (by simpa using h0), if_pos (by rw [hb0]; omega)]
      refine ⟨_, rfl, Or.inl ?_⟩; rw [hF]; exact ⟨by decide, 0, rfl, hs.tail.addE (emp_okF _)⟩
     ·
      intro h41; have g41 := zF1 h41; refine zAd ?_; refine zA3 ?_; refine zAo zBm hs ?_; intro w tr hK; replace hs := tr _ hs; clear tr; refine zA5 0 rfl rfl (fun w hs => zA1 (v := .pointer (some _)) rfl) hK ?_; refine zA5 1 rfl rfl (fun w hs => zA1 (v := .pointer (some _)) rfl) hK ?_; refine zA5 2 rfl rfl (fun w hs => zA1 (v := .pointer (some _)) rfl) hK ?_; refine zA5 3 rfl rfl (fun w hs => zBy hs 0 (mfL m (ea, ec) (oa, oc)) rfl zCe zEe rfl rfl) hK ?_; refine zA5 5 rfl rfl (fun w hs => zA4 (o' := 0) zCe rfl sz3 rfl rfl rfl) hK ?_; refine zA5 6 rfl rfl (fun w hs => zA7 uz3 rfl rfl (hs.cellAt 0 rfl rfl)) hK ?_
      refine zA5 7 rfl rfl (fun w hs => zBt (cs := [.int .i64 m.id, .int .i64 0, .int .i64 0, .int .i64 0]) zCw ze103 pl103 rfl) hK ?_; refine zAe [4] ?_; refine ⟨⟨_, rfl, ?_⟩, trivial⟩; refine zAb rfl en46 (cloneM_sl hs (x := m) (e := (ea, ec)) (o := (oa, oc)) hm.cons.cons.cons heps hob) ?_; clear hs; rintro _ w ⟨s1, s2, rfl, hs⟩; clear hK; have hK := hs.tail.tail; refine zA6 ⟨hK, ?_⟩; refine @zF9 _ _ _ _ _ _ _ _ _ _ _ _ _ _ 8 _ rfl (by kernel_rfl) (by kernel_rfl) (by kernel_rfl) rfl (fun w hs => run_buildUp (E := each.toNat) (m := m) (e := s1) (o := s2) zCs ze106 pl106 rfl rfl rfl rfl rfl) hK ?_; refine zAe [9] ?_; refine ⟨⟨_, rfl, ?_⟩, trivial⟩; refine zBh (v := .agg _) hs rfl rfl ?_
      clear hs; intro b52 w hs
      try simp only [zzs, zzz] at hs
      clear hK; have hK := hs.tail.tail.tail; refine zA6 ⟨hK, ?_⟩; refine zA5 10 rfl rfl (fun w hs => zA0 (v := .pointer (some _)) rfl) hK ?_; refine zAs (by kernel_rfl) ?_; clear hK; obtain ⟨E, rfl⟩ : ∃ E : Nat, each = E := ⟨each.toNat, by omega⟩; replace hs := (((Mem.stars (M := []) (L := _ :: _ :: _ :: _ :: _ :: _ :: L) hs).addE (rowK_nil 5 _)).addE (zDe _)).arr [3, 4, 5, 0, 1, 2, 6, 7, 8] 9 (by decide); refine zA3 ?_; refine zA3 (zA2 ?_); refine zA rfl (zA4 (o' := 5) zCe rfl sz37 rfl rfl rfl) ?_; refine zA rfl (zA7 zDv rfl rfl (hs.cellAt 6 rfl rfl)) ?_; refine zA rfl (zAv zDv rfl) ?_; refine zA rfl (zA1 (v := .int .i64 _) rfl) ?_; refine zA6 ?_; refine zAn ?_
      refine zBr (X := Nat × List (List UInt8 × SA) × SA × SA) [12, 13, 16, 17, 18, 19, 56, 57, 58, 59, 60, 61, 62, 63, 64, 65, 66, 67, 68, 69, 70, 71, 72, 73, 74, 75, 76, 77, 78, 79, 80, 81, 82, 83, 84, 85, 86, 87, 88, 89, 90, 91, 92, 93, 94, 95, 96, 97, 98, 99, 100, 101, 102, 103, 104, 105, 106, 107, 108, 109, 110, 111] (fun x => [(56, .int .i64 (x.1 : Nat))]) (fun x w => (x.1 ≤ m.obs.length ∧ x.2.1.map (·.1) = (bl.map (·.1)).take x.1 ∧ upG E 0 m.obs (bl.map (·.1)) = upG E x.1 (m.obs.drop x.1) ((bl.map (·.1)).drop x.1)) ∧ Mem g w (ucO b52 (upTo d l c E m s1 s2 x) (m.id, 0, 0, 0) false (cells b10 (mfL m (ea, ec) (oa, oc)) 39 :: zDl l d ev V q cc n :: zBc d dk :: L))) (fun x => m.obs.length - x.1) ((0, [], (none, 0), (none, 0))) ?_ ?_ ?_
      · exact ⟨rfl, trivial⟩
      · exact ⟨⟨Nat.zero_le _, rfl, rfl⟩, Mem.noPlans hs⟩
      clear hs; rintro x ξ w hI; obtain ⟨k, xs, ⟨a3, c3⟩, ⟨a4, c4⟩⟩ := x; obtain ⟨⟨hk, hxs, hup⟩, hs⟩ := hI; simp only at hk hxs hup hs
      show cw _ _ _ _ _ _ (updL (mix _ ξ _) [(56, .int .i64 (k : Nat))]) w
      refine zA3 (zA2 ?_); refine zA rfl (zBa rfl rfl) ?_; refine zA6 ?_; refine zA3 ?_; refine zB1 rfl ?_ ?_
      ·
       intro h57; have g57 := of_decide_eq_true h57; obtain ⟨ob, hob2⟩ : ∃ ob, m.obs[k]? = some ob := ⟨_, List.getElem?_eq_getElem (by omega)⟩; obtain ⟨y, hy⟩ : ∃ y, bl[k]? = some y := ⟨_, List.getElem?_eq_getElem (by omega)⟩; have hym := List.mem_of_getElem? hy
       have hyv : (bl.map bV)[k]? = some (bV y) := by rw [List.getElem?_map, hy]; rfl
       have hyb : (bl.map (·.1))[k]? = some y.1 := by rw [List.getElem?_map, hy]; rfl
       rw [upG_at hob2 hyb] at hup
       have hxl : xs.length = k := by have := congrArg List.length hxs; simp only [List.length_map, List.length_take] at this; omega
       obtain ⟨bo, oo, rfl⟩ := hm.obs.at (hs.suffix 9 rfl) (by rw [zEk]; omega); obtain ⟨bb, bo2, rfl, _⟩ := hb.cells' (hs.suffix 9 rfl) (by rw [List.length_map]; omega); refine zAd ?_; refine zA3 ?_; refine zAn ?_; refine zA3 (zA2 ?_); refine zA rfl (zA1 (v := .int .i64 _) rfl) ?_; refine zA rfl (zAt zDv sz66 rfl rfl rfl (by omega) rfl) ?_; refine zA rfl (zD5 (cs := obL ob) uz66 sz66 rfl (fun j v hj => hm.obs.cell (hs.suffix 9 rfl) (zFi hob2) hj)) ?_; refine zBl hs rfl ze66 ?_; clear hs; intro b17 w hs
       try simp only [zzs, zzz] at hs
       refine zA rfl (zA0 (v := .int .i64 _) rfl) ?_; refine zAq hs 0 rfl rfl rfl sz66 rfl rfl ?_; clear hs; intro w hs
       try simp only [zzs, zzz] at hs
       refine zA6 ?_; refine zA3 ?_; refine zAo zBm hs ?_; intro w tr hK; replace hs := tr _ hs; clear tr; refine zA5 0 rfl rfl (fun w hs => zB8 hs 0 rfl uz66 sz66 rfl) hK ?_; refine zA5 1 rfl rfl (fun w hs => zA1 (v := .slice _ _ _) rfl) hK ?_; refine zA5 2 rfl rfl (fun w hs => zA1 (v := .int .i64 _) rfl) hK ?_; refine zA5 3 rfl rfl (fun w hs => zBf zGa sz22 rfl rfl rfl (by omega) rfl) hK ?_; refine zA5 4 rfl rfl (fun w hs => zA7 zCo rfl rfl (hb.cellAt (hs.suffix 10 rfl) hyv)) hK ?_; refine zAe [5] ?_; refine ⟨⟨_, rfl, ?_⟩, trivial⟩; refine zAb rfl en47 (check_sl hE hs (fun w hs => hbr y hym w (hs.suffix 10 rfl)) (hbl y hym)) ?_; clear hs; rintro _ w ⟨rfl, hs⟩; clear hK; have hK := hs
       refine zA6 ⟨hK, ?_⟩; refine zA5 6 rfl rfl (fun w hs => zA0 (v := zAk ad _) rfl) hK ?_; refine zAs (by kernel_rfl) ?_; clear hK; refine zA3 (zA2 ?_); refine zBl hs rfl ze109 ?_; clear hs; intro b19 w hs
       try simp only [zzs, zzz] at hs
       refine zA6 ?_; refine zA3 ?_; refine zA3 (zA2 ?_); refine zA rfl (zA1 (v := zAk ad _) rfl) ?_; refine zA rfl (zDt (ad := ad) rfl) ?_; refine zA6 ?_; refine zB1 rfl ?_ ?_
       ·
        intro h68; have g68 := of_decide_eq_true h68
        have hck : obCk ob y.1 = 0 := by simpa using h68
        refine zAo zBm hs.tail ?_; intro w tr hK; replace hs := tr _ hs; clear tr; refine zA5 0 rfl rfl (fun w hs => zA4 (o' := 0) uz66 rfl sz9 rfl rfl rfl) hK ?_; refine zA5 1 rfl rfl (fun w hs => zA7 uz9 rfl rfl (hs.cellAt 0 rfl rfl)) hK ?_; refine zA5 2 rfl rfl (fun w hs => zA1 (v := .slice _ _ _) rfl) hK ?_; refine zA5 3 rfl rfl (fun w hs => zA1 (v := .int .i64 _) rfl) hK ?_; refine zA5 4 rfl rfl (fun w hs => zBf zGa sz22 rfl rfl rfl (by omega) rfl) hK ?_; refine zA5 5 rfl rfl (fun w hs => zA7 zCo rfl rfl (hb.cellAt (hs.suffix 10 rfl) hyv)) hK ?_; refine zA5 6 rfl rfl (fun w hs => zA1 (v := .int .i64 _) rfl) hK ?_; refine zAe [7] ?_; refine ⟨⟨_, rfl, ?_⟩, trivial⟩
        refine zAb rfl en48 (pmake_sl hE.uG hs (fun w hs => hbr y hym w (hs.suffix 11 rfl)) rfl (hbl y hym) hea) ?_; clear hs; rintro _ w ⟨c77, nm77, sz77, sm77, ea77, pa77, hmk, rfl, hs⟩; clear hK; have hK := hs.tail; refine zA6 ⟨hK, ?_⟩; refine zA5 8 rfl rfl (fun w hs => zA1 (v := .tuple _) rfl) hK ?_; refine zA5 9 rfl rfl (fun w hs => zAa (v := .agg _) rfl rfl) hK ?_; refine zA5 10 rfl rfl (fun w hs => zAa (v := zAk ad _) rfl rfl) hK ?_; refine zAe [11] ?_; refine ⟨⟨_, rfl, ?_⟩, trivial⟩; refine zAq hs 0 rfl rfl rfl zG4 rfl rfl ?_; clear hs; intro w hs
        try simp only [zzs, zzz] at hs
        clear hK; have hK := hs.tail; refine zA6 ⟨hK, ?_⟩; refine zA5 12 rfl rfl (fun w hs => zA0 (v := zAk ad _) rfl) hK ?_; refine zAs (by kernel_rfl) ?_; clear hK; refine zA3 ?_; refine zA3 (zA2 ?_); refine zA rfl (zA1 (v := zAk ad _) rfl) ?_; refine zA rfl (zAx (ad := ad) rfl) ?_; refine zA6 ?_; refine zB1 rfl ?_ ?_
        ·
         intro h81; have g81 := zF0 h81; refine zA3 (zA2 ?_); refine zA rfl (zA1 (v := .int .i64 _) rfl) ?_; refine zA rfl (zA1 (v := zAk ad _) rfl) ?_; refine zA rfl (zC3 [.int .i64 (k : Nat), zAk ad c77] uz114 ze114 pl114 rfl (at_one _ _) rfl rfl) ?_; refine zBh (v := .agg _) hs rfl rfl ?_; clear hs; intro b85 w hs
         try simp only [zzs, zzz] at hs
         refine zA rfl (run_mkI uz112 rfl) ?_; refine zA rfl (zA0 (v := .pointer none) rfl) ?_; refine zA rfl (zA0 (v := .iface _ (.pointer (some _))) rfl) ?_; refine zA6 ?_; refine zAc ?_; refine zDy (v := .pointer none) (v2 := .iface _ (.pointer (some _))) rfl rfl rfl ?_
         have hg : obG E ob y.1 = c77 := by rw [obG, if_neg (by simp [hck]), hmk]
         have hF : upF E m (bl.map (·.1)) = (c77, some k) := by rw [upF, if_neg (by omega), if_neg (by simpa using h0), if_neg (by rw [hb0]; omega), hup, hg, if_pos g81]
         refine ⟨_, rfl, Or.inl ?_⟩; rw [hF]; exact ⟨g81, b85, rfl, hs.arr [0, 10, 11] 12 (by decide)⟩
        ·
         intro h81; have g81 := zF1 h81
         have hc0 : c77 = 0 := by simpa using h81
         subst hc0; obtain ⟨rfl, rfl, rfl, rfl, rfl⟩ := mkR_ok hmk; refine zAd ?_
         have hpl : (zCb E m.obs xs).length = k := by rw [zCb, List.length_map, List.length_zip]; omega
         replace hs := hs.arr [2, 5, 6, 0, 1, 3, 4, 7, 8, 9, 10] 11 (by decide); refine zAo zBm ((show Mem g w (newH (cells b19 (zEi E ob y.1) 109) (cells b17 (obL ob) 66) (cells b10 (mfL m (ea, ec) (some ⟨bo, oo, none⟩, oc)) 39) (upTo d l c E m s1 s2 (k, xs, (a3, c3), (a4, c4))) (zDl l d ev V q cc n :: zBc d dk :: L)) from by first | exact hs.suffix 3 rfl | exact hs.suffix 4 rfl | exact hs.suffix 5 rfl | exact hs.suffix 6 rfl)) ?_; intro w tr hK; replace hs := tr _ hs; clear tr; refine zA5 0 rfl rfl (fun w hs => zA1 (v := .pointer (some _)) rfl) hK ?_; refine zA5 1 rfl rfl (fun w hs => zA1 (v := .pointer (some _)) rfl) hK ?_
         refine zA5 2 rfl rfl (fun w hs => zA1 (v := .pointer (some _)) rfl) hK ?_; refine zA5 3 rfl rfl (fun w hs => zA8 rfl) hK ?_; refine zA5 4 rfl rfl (fun w hs => zA4 (o' := 10) zCs rfl sz104 rfl rfl rfl) hK ?_; refine zA5 6 rfl rfl (fun w hs => zB8 hs 0 rfl zE8 zG4 rfl) hK ?_; refine zA5 9 rfl rfl (fun w hs => zA1 (v := .pointer (some _)) rfl) hK ?_; refine zA5 10 rfl rfl (fun w hs => zA8 rfl) hK ?_; refine zA5 11 rfl rfl (fun w hs => zA4 (o' := 9) zCs rfl sz62 rfl rfl rfl) hK ?_; refine zA5 13 rfl rfl (fun w hs => zA1 (v := .slice _ _ _) rfl) hK ?_; refine zA5 14 rfl rfl (fun w hs => zA1 (v := .int .i64 _) rfl) hK ?_
         refine zA5 15 rfl rfl (fun w hs => zBf zGa sz22 rfl rfl rfl (by omega) rfl) hK ?_; refine zA5 16 rfl rfl (fun w hs => zA7 zCo rfl rfl (hb.cellAt (hs.suffix 8 rfl) hyv)) hK ?_; refine zAe [5, 7, 12] ?_; refine ⟨⟨_, rfl, ?_⟩, ⟨_, rfl, ?_⟩, ⟨_, rfl, ?_⟩, trivial⟩; refine zA rfl (zA7 zDg rfl rfl (hs.cellAt 0 rfl rfl)) ?_; clear hK; have hK := (show Mem g w (newH (cells b19 (zEi E ob y.1) 109) (cells b17 (obL ob) 66) (cells b10 (mfL m (ea, ec) (some ⟨bo, oo, none⟩, oc)) 39) (upTo d l c E m s1 s2 (k, xs, (a3, c3), (a4, c4))) (zDl l d ev V q cc n :: zBc d dk :: L)) from by first | exact hs.suffix 3 rfl | exact hs.suffix 4 rfl | exact hs.suffix 5 rfl | exact hs.suffix 6 rfl)
         refine zA6 ⟨hK, ?_⟩; refine zAe [7, 12] ?_; refine ⟨⟨_, rfl, ?_⟩, ⟨_, rfl, ?_⟩, trivial⟩; refine zDd hs rfl (row := zEi E ob y.1) zDg zsPl rfl (fill_plan _ _ _ _ _) (by decide) (by decide) ?_; clear hs; intro b94 w hs; clear hK; have hK := hs.suffix 4 rfl; refine zA6 ⟨hK, ?_⟩; refine zAe [8, 12] ?_; refine ⟨⟨_, rfl, ?_⟩, ⟨_, rfl, ?_⟩, trivial⟩; refine zCp hs rfl 3 0 rfl rfl zDg zDg in109 rfl rfl (by rfl) rfl rfl (by show ((zCb E m.obs xs).length + 1) * _ ≤ 140737488355328; rw [hpl]; omega) (by show (zCb E m.obs xs).length + 1 ≤ _; rw [hpl]; omega) ?_; clear hs; intro a95 c95 w hs; simp only [zzs, zzz] at hs; clear hK; have hK := hs.suffix 4 rfl
         refine zA6 ⟨hK, ?_⟩; refine zAe [12, 17] ?_; refine ⟨⟨_, rfl, ?_⟩, ⟨_, rfl, ?_⟩, trivial⟩; refine zA rfl (zA7 zGa rfl rfl (hs.cellAt 1 rfl rfl)) ?_; clear hK; have hK := (show Mem g w (newH (cells b19 (zEi E ob y.1) 109) (cells b17 (obL ob) 66) (cells b10 (mfL m (ea, ec) (some ⟨bo, oo, none⟩, oc)) 39) (upTo d l c E m s1 s2 (k, xs, (a3, c3), (a4, c4))) (zDl l d ev V q cc n :: zBc d dk :: L)) from by first | exact hs.suffix 3 rfl | exact hs.suffix 4 rfl | exact hs.suffix 5 rfl | exact hs.suffix 6 rfl); refine zA6 ⟨hK, ?_⟩; refine zAe [17] ?_; refine ⟨⟨_, rfl, ?_⟩, trivial⟩
         refine zAb rfl en49 (zCk hs (l := y.1) (fun w hs => hbr y hym w (hs.suffix 12 rfl)) (by have := hbl y hym; omega)) ?_; clear hs; rintro _ w ⟨a104, c104, rfl, hs⟩; rw [zAw] at hs ⊢
         have hone : ∀ u ∈ [bV (y.1, (a104, c104))], u.oneCell' = true := fun u hu => by simp only [List.mem_cons, List.not_mem_nil, or_false] at hu; subst hu; rfl
         clear hK; have hK := hs.suffix 5 rfl; refine zA6 ⟨hK, ?_⟩; refine zAe [18] ?_; refine ⟨⟨_, rfl, ?_⟩, trivial⟩; refine zB0 hs rfl ([bV (y.1, (a104, c104))]) zGa zs22 rfl (fun u hu => (by simp only [List.mem_cons, List.not_mem_nil, or_false] at hu; subst hu; rfl)) rfl rfl rfl ?_; clear hs; intro b105 w hs
         try simp only [zzs, zzz] at hs
         clear hK; have hK := hs.suffix 6 rfl
         rotate_left
         refine zAb rfl en49 (zCk hs (l := y.1) (fun w hs => hbr y hym w (hs.suffix 12 rfl)) (by have := hbl y hym; omega)) ?_; clear hs; rintro _ w ⟨a104, c104, rfl, hs⟩; rw [zAw] at hs ⊢
         have hone : ∀ u ∈ [bV (y.1, (a104, c104))], u.oneCell' = true := fun u hu => by simp only [List.mem_cons, List.not_mem_nil, or_false] at hu; subst hu; rfl
         clear hK; have hK := hs.suffix 5 rfl; refine zA6 ⟨hK, ?_⟩; refine zAe [12, 18] ?_; refine ⟨⟨_, rfl, ?_⟩, ⟨_, rfl, ?_⟩, trivial⟩; refine zA rfl (zA7 zGa rfl rfl (hs.cellAt 2 rfl rfl)) ?_; clear hK; have hK := (show Mem g w (newH (cells b19 (zEi E ob y.1) 109) (cells b17 (obL ob) 66) (cells b10 (mfL m (ea, ec) (some ⟨bo, oo, none⟩, oc)) 39) (upTo d l c E m s1 s2 (k, xs, (a3, c3), (a4, c4))) (zDl l d ev V q cc n :: zBc d dk :: L)) from by first | exact hs.suffix 3 rfl | exact hs.suffix 4 rfl | exact hs.suffix 5 rfl | exact hs.suffix 6 rfl); refine zA6 ⟨hK, ?_⟩; refine zAe [18] ?_; refine ⟨⟨_, rfl, ?_⟩, trivial⟩
         refine zB0 hs rfl ([bV (y.1, (a104, c104))]) zGa zs22 rfl (fun u hu => (by simp only [List.mem_cons, List.not_mem_nil, or_false] at hu; subst hu; rfl)) rfl rfl rfl ?_; clear hs; intro b105 w hs
         try simp only [zzs, zzz] at hs
         clear hK; have hK := hs.suffix 6 rfl
         rotate_left
         refine zB0 hs rfl ([bV (y.1, (a104, c104))]) zGa zs22 rfl (fun u hu => (by simp only [List.mem_cons, List.not_mem_nil, or_false] at hu; subst hu; rfl)) rfl rfl rfl ?_; clear hs; intro b105 w hs
         try simp only [zzs, zzz] at hs
         clear hK; have hK := hs.suffix 6 rfl; refine zA6 ⟨hK, ?_⟩; refine zAe [12] ?_; refine ⟨⟨_, rfl, ?_⟩, trivial⟩; refine zA rfl (zA7 zGa rfl rfl (hs.cellAt 3 rfl rfl)) ?_; clear hK; have hK := (show Mem g w (newH (cells b19 (zEi E ob y.1) 109) (cells b17 (obL ob) 66) (cells b10 (mfL m (ea, ec) (some ⟨bo, oo, none⟩, oc)) 39) (upTo d l c E m s1 s2 (k, xs, (a3, c3), (a4, c4))) (zDl l d ev V q cc n :: zBc d dk :: L)) from by first | exact hs.suffix 3 rfl | exact hs.suffix 4 rfl | exact hs.suffix 5 rfl | exact hs.suffix 6 rfl)
         rotate_left
         refine zA rfl (zA7 zGa rfl rfl (hs.cellAt 1 rfl rfl)) ?_; clear hK; have hK := (show Mem g w (newH (cells b19 (zEi E ob y.1) 109) (cells b17 (obL ob) 66) (cells b10 (mfL m (ea, ec) (some ⟨bo, oo, none⟩, oc)) 39) (upTo d l c E m s1 s2 (k, xs, (a3, c3), (a4, c4))) (zDl l d ev V q cc n :: zBc d dk :: L)) from by first | exact hs.suffix 3 rfl | exact hs.suffix 4 rfl | exact hs.suffix 5 rfl | exact hs.suffix 6 rfl); refine zA6 ⟨hK, ?_⟩; refine zAe [8] ?_; refine ⟨⟨_, rfl, ?_⟩, trivial⟩
         refine zCp hs rfl 3 0 rfl rfl zDg zDg in109 rfl rfl (by rfl) rfl rfl (by show ((zCb E m.obs xs).length + 1) * _ ≤ 140737488355328; rw [hpl]; omega) (by show (zCb E m.obs xs).length + 1 ≤ _; rw [hpl]; omega) ?_; clear hs; intro a95 c95 w hs; simp only [zzs, zzz] at hs; clear hK; have hK := hs.suffix 4 rfl; refine zA6 ⟨hK, ?_⟩; refine zAe [17] ?_; refine ⟨⟨_, rfl, ?_⟩, trivial⟩; refine zAb rfl en49 (zCk hs (l := y.1) (fun w hs => hbr y hym w (hs.suffix 12 rfl)) (by have := hbl y hym; omega)) ?_; clear hs; rintro _ w ⟨a104, c104, rfl, hs⟩; rw [zAw] at hs ⊢
         have hone : ∀ u ∈ [bV (y.1, (a104, c104))], u.oneCell' = true := fun u hu => by simp only [List.mem_cons, List.not_mem_nil, or_false] at hu; subst hu; rfl
         clear hK; have hK := hs.suffix 5 rfl; refine zA6 ⟨hK, ?_⟩; refine zAe [18] ?_; refine ⟨⟨_, rfl, ?_⟩, trivial⟩; refine zB0 hs rfl ([bV (y.1, (a104, c104))]) zGa zs22 rfl (fun u hu => (by simp only [List.mem_cons, List.not_mem_nil, or_false] at hu; subst hu; rfl)) rfl rfl rfl ?_; clear hs; intro b105 w hs
         try simp only [zzs, zzz] at hs
         clear hK; have hK := hs.suffix 6 rfl
         rotate_left
         refine zA rfl (zA7 zGa rfl rfl (hs.cellAt 0 rfl rfl)) ?_; clear hK; have hK := (show Mem g w (newH (cells b19 (zEi E ob y.1) 109) (cells b17 (obL ob) 66) (cells b10 (mfL m (ea, ec) (some ⟨bo, oo, none⟩, oc)) 39) (upTo d l c E m s1 s2 (k, xs, (a3, c3), (a4, c4))) (zDl l d ev V q cc n :: zBc d dk :: L)) from by first | exact hs.suffix 3 rfl | exact hs.suffix 4 rfl | exact hs.suffix 5 rfl | exact hs.suffix 6 rfl); refine zA6 ⟨hK, ?_⟩; refine zAe [7] ?_; refine ⟨⟨_, rfl, ?_⟩, trivial⟩; refine zDd hs rfl (row := zEi E ob y.1) zDg zsPl rfl (fill_plan _ _ _ _ _) (by decide) (by decide) ?_; clear hs; intro b94 w hs; clear hK; have hK := hs.suffix 4 rfl; refine zA6 ⟨hK, ?_⟩
         refine zAe [8] ?_; refine ⟨⟨_, rfl, ?_⟩, trivial⟩; refine zCp hs rfl 3 0 rfl rfl zDg zDg in109 rfl rfl (by rfl) rfl rfl (by show ((zCb E m.obs xs).length + 1) * _ ≤ 140737488355328; rw [hpl]; omega) (by show (zCb E m.obs xs).length + 1 ≤ _; rw [hpl]; omega) ?_; clear hs; intro a95 c95 w hs; simp only [zzs, zzz] at hs; clear hK; have hK := hs.suffix 4 rfl; refine zA6 ⟨hK, ?_⟩; refine zAe [17] ?_; refine ⟨⟨_, rfl, ?_⟩, trivial⟩; refine zAb rfl en49 (zCk hs (l := y.1) (fun w hs => hbr y hym w (hs.suffix 12 rfl)) (by have := hbl y hym; omega)) ?_; clear hs; rintro _ w ⟨a104, c104, rfl, hs⟩; rw [zAw] at hs ⊢
         have hone : ∀ u ∈ [bV (y.1, (a104, c104))], u.oneCell' = true := fun u hu => by simp only [List.mem_cons, List.not_mem_nil, or_false] at hu; subst hu; rfl
         clear hK; have hK := hs.suffix 5 rfl; refine zA6 ⟨hK, ?_⟩; refine zAe [18] ?_; refine ⟨⟨_, rfl, ?_⟩, trivial⟩; refine zB0 hs rfl ([bV (y.1, (a104, c104))]) zGa zs22 rfl (fun u hu => (by simp only [List.mem_cons, List.not_mem_nil, or_false] at hu; subst hu; rfl)) rfl rfl rfl ?_; clear hs; intro b105 w hs
         try simp only [zzs, zzz] at hs
         clear hK; have hK := hs.suffix 6 rfl
         rotate_left
         refine zDd hs rfl (row := zEi E ob y.1) zDg zsPl rfl (fill_plan _ _ _ _ _) (by decide) (by decide) ?_; clear hs; intro b94 w hs; clear hK; have hK := hs.suffix 4 rfl; refine zA6 ⟨hK, ?_⟩; refine zAe [5, 12] ?_; refine ⟨⟨_, rfl, ?_⟩, ⟨_, rfl, ?_⟩, trivial⟩; refine zA rfl (zA7 zDg rfl rfl (hs.cellAt 1 rfl rfl)) ?_; clear hK; have hK := (show Mem g w (newH (cells b19 (zEi E ob y.1) 109) (cells b17 (obL ob) 66) (cells b10 (mfL m (ea, ec) (some ⟨bo, oo, none⟩, oc)) 39) (upTo d l c E m s1 s2 (k, xs, (a3, c3), (a4, c4))) (zDl l d ev V q cc n :: zBc d dk :: L)) from by first | exact hs.suffix 3 rfl | exact hs.suffix 4 rfl | exact hs.suffix 5 rfl | exact hs.suffix 6 rfl)
         refine zA6 ⟨hK, ?_⟩; refine zAe [8, 12] ?_; refine ⟨⟨_, rfl, ?_⟩, ⟨_, rfl, ?_⟩, trivial⟩; refine zCp hs rfl 3 0 rfl rfl zDg zDg in109 rfl rfl (by rfl) rfl rfl (by show ((zCb E m.obs xs).length + 1) * _ ≤ 140737488355328; rw [hpl]; omega) (by show (zCb E m.obs xs).length + 1 ≤ _; rw [hpl]; omega) ?_; clear hs; intro a95 c95 w hs; simp only [zzs, zzz] at hs; clear hK; have hK := hs.suffix 4 rfl; refine zA6 ⟨hK, ?_⟩; refine zAe [12, 17] ?_; refine ⟨⟨_, rfl, ?_⟩, ⟨_, rfl, ?_⟩, trivial⟩; refine zA rfl (zA7 zGa rfl rfl (hs.cellAt 1 rfl rfl)) ?_; clear hK
         have hK := (show Mem g w (newH (cells b19 (zEi E ob y.1) 109) (cells b17 (obL ob) 66) (cells b10 (mfL m (ea, ec) (some ⟨bo, oo, none⟩, oc)) 39) (upTo d l c E m s1 s2 (k, xs, (a3, c3), (a4, c4))) (zDl l d ev V q cc n :: zBc d dk :: L)) from by first | exact hs.suffix 3 rfl | exact hs.suffix 4 rfl | exact hs.suffix 5 rfl | exact hs.suffix 6 rfl); refine zA6 ⟨hK, ?_⟩; refine zAe [17] ?_; refine ⟨⟨_, rfl, ?_⟩, trivial⟩; refine zAb rfl en49 (zCk hs (l := y.1) (fun w hs => hbr y hym w (hs.suffix 12 rfl)) (by have := hbl y hym; omega)) ?_; clear hs; rintro _ w ⟨a104, c104, rfl, hs⟩; rw [zAw] at hs ⊢
         have hone : ∀ u ∈ [bV (y.1, (a104, c104))], u.oneCell' = true := fun u hu => by simp only [List.mem_cons, List.not_mem_nil, or_false] at hu; subst hu; rfl
         clear hK; have hK := hs.suffix 5 rfl; refine zA6 ⟨hK, ?_⟩; refine zAe [18] ?_; refine ⟨⟨_, rfl, ?_⟩, trivial⟩; refine zB0 hs rfl ([bV (y.1, (a104, c104))]) zGa zs22 rfl (fun u hu => (by simp only [List.mem_cons, List.not_mem_nil, or_false] at hu; subst hu; rfl)) rfl rfl rfl ?_; clear hs; intro b105 w hs
         try simp only [zzs, zzz] at hs
         clear hK; have hK := hs.suffix 6 rfl
         rotate_left
         refine zAb rfl en49 (zCk hs (l := y.1) (fun w hs => hbr y hym w (hs.suffix 12 rfl)) (by have := hbl y hym; omega)) ?_; clear hs; rintro _ w ⟨a104, c104, rfl, hs⟩; rw [zAw] at hs ⊢
         have hone : ∀ u ∈ [bV (y.1, (a104, c104))], u.oneCell' = true := fun u hu => by simp only [List.mem_cons, List.not_mem_nil, or_false] at hu; subst hu; rfl
         clear hK; have hK := hs.suffix 5 rfl; refine zA6 ⟨hK, ?_⟩; refine zAe [12, 18] ?_; refine ⟨⟨_, rfl, ?_⟩, ⟨_, rfl, ?_⟩, trivial⟩; refine zA rfl (zA7 zGa rfl rfl (hs.cellAt 2 rfl rfl)) ?_; clear hK; have hK := (show Mem g w (newH (cells b19 (zEi E ob y.1) 109) (cells b17 (obL ob) 66) (cells b10 (mfL m (ea, ec) (some ⟨bo, oo, none⟩, oc)) 39) (upTo d l c E m s1 s2 (k, xs, (a3, c3), (a4, c4))) (zDl l d ev V q cc n :: zBc d dk :: L)) from by first | exact hs.suffix 3 rfl | exact hs.suffix 4 rfl | exact hs.suffix 5 rfl | exact hs.suffix 6 rfl); refine zA6 ⟨hK, ?_⟩; refine zAe [18] ?_; refine ⟨⟨_, rfl, ?_⟩, trivial⟩
         refine zB0 hs rfl ([bV (y.1, (a104, c104))]) zGa zs22 rfl (fun u hu => (by simp only [List.mem_cons, List.not_mem_nil, or_false] at hu; subst hu; rfl)) rfl rfl rfl ?_; clear hs; intro b105 w hs
         try simp only [zzs, zzz] at hs
         clear hK; have hK := hs.suffix 6 rfl
         rotate_left
         refine zB0 hs rfl ([bV (y.1, (a104, c104))]) zGa zs22 rfl (fun u hu => (by simp only [List.mem_cons, List.not_mem_nil, or_false] at hu; subst hu; rfl)) rfl rfl rfl ?_; clear hs; intro b105 w hs
         try simp only [zzs, zzz] at hs
         clear hK; have hK := hs.suffix 6 rfl; refine zA6 ⟨hK, ?_⟩; refine zAe [12] ?_; refine ⟨⟨_, rfl, ?_⟩, trivial⟩; refine zA rfl (zA7 zGa rfl rfl (hs.cellAt 3 rfl rfl)) ?_; clear hK; have hK := (show Mem g w (newH (cells b19 (zEi E ob y.1) 109) (cells b17 (obL ob) 66) (cells b10 (mfL m (ea, ec) (some ⟨bo, oo, none⟩, oc)) 39) (upTo d l c E m s1 s2 (k, xs, (a3, c3), (a4, c4))) (zDl l d ev V q cc n :: zBc d dk :: L)) from by first | exact hs.suffix 3 rfl | exact hs.suffix 4 rfl | exact hs.suffix 5 rfl | exact hs.suffix 6 rfl)
         rotate_left
         refine zA rfl (zA7 zGa rfl rfl (hs.cellAt 1 rfl rfl)) ?_; clear hK; have hK := (show Mem g w (newH (cells b19 (zEi E ob y.1) 109) (cells b17 (obL ob) 66) (cells b10 (mfL m (ea, ec) (some ⟨bo, oo, none⟩, oc)) 39) (upTo d l c E m s1 s2 (k, xs, (a3, c3), (a4, c4))) (zDl l d ev V q cc n :: zBc d dk :: L)) from by first | exact hs.suffix 3 rfl | exact hs.suffix 4 rfl | exact hs.suffix 5 rfl | exact hs.suffix 6 rfl); refine zA6 ⟨hK, ?_⟩; refine zAe [8] ?_; refine ⟨⟨_, rfl, ?_⟩, trivial⟩
         refine zCp hs rfl 3 0 rfl rfl zDg zDg in109 rfl rfl (by rfl) rfl rfl (by show ((zCb E m.obs xs).length + 1) * _ ≤ 140737488355328; rw [hpl]; omega) (by show (zCb E m.obs xs).length + 1 ≤ _; rw [hpl]; omega) ?_; clear hs; intro a95 c95 w hs; simp only [zzs, zzz] at hs; clear hK; have hK := hs.suffix 4 rfl; refine zA6 ⟨hK, ?_⟩; refine zAe [17] ?_; refine ⟨⟨_, rfl, ?_⟩, trivial⟩; refine zAb rfl en49 (zCk hs (l := y.1) (fun w hs => hbr y hym w (hs.suffix 12 rfl)) (by have := hbl y hym; omega)) ?_; clear hs; rintro _ w ⟨a104, c104, rfl, hs⟩; rw [zAw] at hs ⊢
         have hone : ∀ u ∈ [bV (y.1, (a104, c104))], u.oneCell' = true := fun u hu => by simp only [List.mem_cons, List.not_mem_nil, or_false] at hu; subst hu; rfl
         clear hK; have hK := hs.suffix 5 rfl; refine zA6 ⟨hK, ?_⟩; refine zAe [18] ?_; refine ⟨⟨_, rfl, ?_⟩, trivial⟩; refine zB0 hs rfl ([bV (y.1, (a104, c104))]) zGa zs22 rfl (fun u hu => (by simp only [List.mem_cons, List.not_mem_nil, or_false] at hu; subst hu; rfl)) rfl rfl rfl ?_; clear hs; intro b105 w hs
         try simp only [zzs, zzz] at hs
         clear hK; have hK := hs.suffix 6 rfl
         rotate_left
         refine zA rfl (zA7 zGa rfl rfl (hs.cellAt 1 rfl rfl)) ?_; clear hK; have hK := (show Mem g w (newH (cells b19 (zEi E ob y.1) 109) (cells b17 (obL ob) 66) (cells b10 (mfL m (ea, ec) (some ⟨bo, oo, none⟩, oc)) 39) (upTo d l c E m s1 s2 (k, xs, (a3, c3), (a4, c4))) (zDl l d ev V q cc n :: zBc d dk :: L)) from by first | exact hs.suffix 3 rfl | exact hs.suffix 4 rfl | exact hs.suffix 5 rfl | exact hs.suffix 6 rfl); refine zA6 ⟨hK, ?_⟩; refine zAe [5] ?_; refine ⟨⟨_, rfl, ?_⟩, trivial⟩; refine zA rfl (zA7 zDg rfl rfl (hs.cellAt 1 rfl rfl)) ?_; clear hK
         have hK := (show Mem g w (newH (cells b19 (zEi E ob y.1) 109) (cells b17 (obL ob) 66) (cells b10 (mfL m (ea, ec) (some ⟨bo, oo, none⟩, oc)) 39) (upTo d l c E m s1 s2 (k, xs, (a3, c3), (a4, c4))) (zDl l d ev V q cc n :: zBc d dk :: L)) from by first | exact hs.suffix 3 rfl | exact hs.suffix 4 rfl | exact hs.suffix 5 rfl | exact hs.suffix 6 rfl); refine zA6 ⟨hK, ?_⟩; refine zAe [8] ?_; refine ⟨⟨_, rfl, ?_⟩, trivial⟩; refine zCp hs rfl 3 0 rfl rfl zDg zDg in109 rfl rfl (by rfl) rfl rfl (by show ((zCb E m.obs xs).length + 1) * _ ≤ 140737488355328; rw [hpl]; omega) (by show (zCb E m.obs xs).length + 1 ≤ _; rw [hpl]; omega) ?_; clear hs; intro a95 c95 w hs
         simp only [zzs, zzz] at hs; clear hK; have hK := hs.suffix 4 rfl; refine zA6 ⟨hK, ?_⟩; refine zAe [17] ?_; refine ⟨⟨_, rfl, ?_⟩, trivial⟩; refine zAb rfl en49 (zCk hs (l := y.1) (fun w hs => hbr y hym w (hs.suffix 12 rfl)) (by have := hbl y hym; omega)) ?_; clear hs; rintro _ w ⟨a104, c104, rfl, hs⟩; rw [zAw] at hs ⊢
         have hone : ∀ u ∈ [bV (y.1, (a104, c104))], u.oneCell' = true := fun u hu => by simp only [List.mem_cons, List.not_mem_nil, or_false] at hu; subst hu; rfl
         clear hK; have hK := hs.suffix 5 rfl; refine zA6 ⟨hK, ?_⟩; refine zAe [18] ?_; refine ⟨⟨_, rfl, ?_⟩, trivial⟩; refine zB0 hs rfl ([bV (y.1, (a104, c104))]) zGa zs22 rfl (fun u hu => (by simp only [List.mem_cons, List.not_mem_nil, or_false] at hu; subst hu; rfl)) rfl rfl rfl ?_; clear hs; intro b105 w hs
         try simp only [zzs, zzz] at hs
         clear hK; have hK := hs.suffix 6 rfl
         rotate_left
         refine zA rfl (zA7 zGa rfl rfl (hs.cellAt 0 rfl rfl)) ?_; clear hK; have hK := (show Mem g w (newH (cells b19 (zEi E ob y.1) 109) (cells b17 (obL ob) 66) (cells b10 (mfL m (ea, ec) (some ⟨bo, oo, none⟩, oc)) 39) (upTo d l c E m s1 s2 (k, xs, (a3, c3), (a4, c4))) (zDl l d ev V q cc n :: zBc d dk :: L)) from by first | exact hs.suffix 3 rfl | exact hs.suffix 4 rfl | exact hs.suffix 5 rfl | exact hs.suffix 6 rfl); refine zA6 ⟨hK, ?_⟩; refine zAe [5, 7] ?_; refine ⟨⟨_, rfl, ?_⟩, ⟨_, rfl, ?_⟩, trivial⟩; refine zA rfl (zA7 zDg rfl rfl (hs.cellAt 0 rfl rfl)) ?_; clear hK
         have hK := (show Mem g w (newH (cells b19 (zEi E ob y.1) 109) (cells b17 (obL ob) 66) (cells b10 (mfL m (ea, ec) (some ⟨bo, oo, none⟩, oc)) 39) (upTo d l c E m s1 s2 (k, xs, (a3, c3), (a4, c4))) (zDl l d ev V q cc n :: zBc d dk :: L)) from by first | exact hs.suffix 3 rfl | exact hs.suffix 4 rfl | exact hs.suffix 5 rfl | exact hs.suffix 6 rfl); refine zA6 ⟨hK, ?_⟩; refine zAe [7] ?_; refine ⟨⟨_, rfl, ?_⟩, trivial⟩; refine zDd hs rfl (row := zEi E ob y.1) zDg zsPl rfl (fill_plan _ _ _ _ _) (by decide) (by decide) ?_; clear hs; intro b94 w hs; clear hK; have hK := hs.suffix 4 rfl; refine zA6 ⟨hK, ?_⟩; refine zAe [8] ?_; refine ⟨⟨_, rfl, ?_⟩, trivial⟩
         refine zCp hs rfl 3 0 rfl rfl zDg zDg in109 rfl rfl (by rfl) rfl rfl (by show ((zCb E m.obs xs).length + 1) * _ ≤ 140737488355328; rw [hpl]; omega) (by show (zCb E m.obs xs).length + 1 ≤ _; rw [hpl]; omega) ?_; clear hs; intro a95 c95 w hs; simp only [zzs, zzz] at hs; clear hK; have hK := hs.suffix 4 rfl; refine zA6 ⟨hK, ?_⟩; refine zAe [17] ?_; refine ⟨⟨_, rfl, ?_⟩, trivial⟩; refine zAb rfl en49 (zCk hs (l := y.1) (fun w hs => hbr y hym w (hs.suffix 12 rfl)) (by have := hbl y hym; omega)) ?_; clear hs; rintro _ w ⟨a104, c104, rfl, hs⟩; rw [zAw] at hs ⊢
         have hone : ∀ u ∈ [bV (y.1, (a104, c104))], u.oneCell' = true := fun u hu => by simp only [List.mem_cons, List.not_mem_nil, or_false] at hu; subst hu; rfl
         clear hK; have hK := hs.suffix 5 rfl; refine zA6 ⟨hK, ?_⟩; refine zAe [18] ?_; refine ⟨⟨_, rfl, ?_⟩, trivial⟩; refine zB0 hs rfl ([bV (y.1, (a104, c104))]) zGa zs22 rfl (fun u hu => (by simp only [List.mem_cons, List.not_mem_nil, or_false] at hu; subst hu; rfl)) rfl rfl rfl ?_; clear hs; intro b105 w hs
         try simp only [zzs, zzz] at hs
         clear hK; have hK := hs.suffix 6 rfl
         rotate_left
         refine zDd hs rfl (row := zEi E ob y.1) zDg zsPl rfl (fill_plan _ _ _ _ _) (by decide) (by decide) ?_; clear hs; intro b94 w hs; clear hK; have hK := hs.suffix 4 rfl; refine zA6 ⟨hK, ?_⟩; refine zAe [5] ?_; refine ⟨⟨_, rfl, ?_⟩, trivial⟩; refine zA rfl (zA7 zDg rfl rfl (hs.cellAt 1 rfl rfl)) ?_; clear hK; have hK := (show Mem g w (newH (cells b19 (zEi E ob y.1) 109) (cells b17 (obL ob) 66) (cells b10 (mfL m (ea, ec) (some ⟨bo, oo, none⟩, oc)) 39) (upTo d l c E m s1 s2 (k, xs, (a3, c3), (a4, c4))) (zDl l d ev V q cc n :: zBc d dk :: L)) from by first | exact hs.suffix 3 rfl | exact hs.suffix 4 rfl | exact hs.suffix 5 rfl | exact hs.suffix 6 rfl); refine zA6 ⟨hK, ?_⟩
         refine zAe [8] ?_; refine ⟨⟨_, rfl, ?_⟩, trivial⟩; refine zCp hs rfl 3 0 rfl rfl zDg zDg in109 rfl rfl (by rfl) rfl rfl (by show ((zCb E m.obs xs).length + 1) * _ ≤ 140737488355328; rw [hpl]; omega) (by show (zCb E m.obs xs).length + 1 ≤ _; rw [hpl]; omega) ?_; clear hs; intro a95 c95 w hs; simp only [zzs, zzz] at hs; clear hK; have hK := hs.suffix 4 rfl; refine zA6 ⟨hK, ?_⟩; refine zAe [17] ?_; refine ⟨⟨_, rfl, ?_⟩, trivial⟩; refine zAb rfl en49 (zCk hs (l := y.1) (fun w hs => hbr y hym w (hs.suffix 12 rfl)) (by have := hbl y hym; omega)) ?_; clear hs; rintro _ w ⟨a104, c104, rfl, hs⟩; rw [zAw] at hs ⊢
         have hone : ∀ u ∈ [bV (y.1, (a104, c104))], u.oneCell' = true := fun u hu => by simp only [List.mem_cons, List.not_mem_nil, or_false] at hu; subst hu; rfl
         clear hK; have hK := hs.suffix 5 rfl; refine zA6 ⟨hK, ?_⟩; refine zAe [18] ?_; refine ⟨⟨_, rfl, ?_⟩, trivial⟩; refine zB0 hs rfl ([bV (y.1, (a104, c104))]) zGa zs22 rfl (fun u hu => (by simp only [List.mem_cons, List.not_mem_nil, or_false] at hu; subst hu; rfl)) rfl rfl rfl ?_; clear hs; intro b105 w hs
         try simp only [zzs, zzz] at hs
         clear hK; have hK := hs.suffix 6 rfl
         rotate_left
         all_goals
          refine zA6 ⟨hK, ?_⟩; refine zAe [19] ?_; refine ⟨⟨_, rfl, ?_⟩, trivial⟩; refine zCx hs rfl 4 rfl zGa in22 rfl rfl rfl (zCg (P := Tryz.prog) zGa ((Rd.cells (n := 1) (cs := [bV (y.1, (a104, c104))]) 0 rfl rfl).seq hs) hone) (by show ((xs.map bV).length + 1) * _ ≤ 140737488355328; rw [List.length_map, hxl]; omega) (by show (xs.map bV).length + 1 ≤ _; rw [List.length_map, hxl]; omega) ?_; clear hs; intro a106 c106 w hs; simp only [zzs, zzz] at hs; clear hK; have hK := hs.suffix 6 rfl; refine zA6 ⟨hK, ?_⟩; refine zA5 20 rfl rfl (fun w hs => zA8 rfl) hK ?_; refine zA5 21 rfl rfl (fun w hs => zA4 (o' := 10) zCs rfl sz104 rfl rfl rfl) hK ?_
          refine zAe [22] ?_; refine ⟨⟨_, rfl, ?_⟩, trivial⟩; refine zB5 (v := .slice _ _ _) hs 3 rfl sz104 rfl rfl rfl rfl ?_; clear hs; intro w hs
          try simp only [zzs, zzz] at hs
          clear hK; have hK := hs.suffix 6 rfl; refine zA6 ⟨hK, ?_⟩; refine zA5 23 rfl rfl (fun w hs => zA8 rfl) hK ?_; refine zA5 24 rfl rfl (fun w hs => zA4 (o' := 9) zCs rfl sz62 rfl rfl rfl) hK ?_; refine zAe [25] ?_; refine ⟨⟨_, rfl, ?_⟩, trivial⟩; refine zB5 (v := .slice _ _ _) hs 3 rfl sz62 rfl rfl rfl rfl ?_; clear hs; intro w hs
          try simp only [zzs, zzz] at hs
          clear hK; have hK := hs.suffix 6 rfl; refine zA6 ⟨hK, ?_⟩; refine zAs (by kernel_rfl) ?_; clear hK; refine zA2 ?_; refine zA rfl (zAp rfl rfl rfl (inI (by omega) (by omega))) ?_; refine zA rfl (zA1 (v := .int .i64 _) rfl) ?_; refine zA6 ?_
          have hg : ¬ obG E ob y.1 ≠ 0 := by rw [obG, if_neg (by simp [hck]), hmk]; exact fun h => h rfl
          rw [if_neg hg] at hup; have h1 := (hs.arr [10, 1, 3, 8, 9, 4, 5, 11, 12, 13] 14 (by decide)).unstars; have h2 := Mem.stars (M := (xs ++ [(y.1, (a104, c104))]).map bC) (by rw [List.map_append, List.append_assoc]; exact h1)
          exact ⟨(k + 1, xs ++ [(y.1, (a104, c104))], (a106, c106), (a95, c95)), by simp only; omega, ⟨⟨by simp only; omega, by simp only [List.map_append, List.map_cons, List.map_nil, hxs]; rw [List.take_add_one, hyb]; rfl, hup⟩, Mem.moreUp (b3 := (a106, c106)) (b4 := (a95, c95)) (n3 := (xs.map bV).length + 1) (n4 := (zCb E m.obs xs).length + 1) (by simp) (by simp; omega) (plans_more (by rw [hxl]; exact hob2)) (R3 := xs.map bV ++ [bV (y.1, (a104, c104))]) (by rw [List.map_append]; rfl) h2⟩, ⟨rfl, trivial⟩, by repeat (first | exact Out.mix _ _ _ | refine Out.updo rfl ?_ | refine Out.upd rfl ?_ | refine Out.mixIn rfl ?_)⟩
       ·
        intro h68; have g68 := of_decide_eq_false h68
        have hck : obCk ob y.1 ≠ 0 := by simpa using h68
        refine zAd ?_; refine zA3 ?_; refine zA3 (zA2 ?_); refine zA rfl (zA1 (v := zAk ad _) rfl) ?_; refine zA rfl (zAx (ad := ad) rfl) ?_; refine zA6 ?_; refine zB9 rfl ((by simpa using hck)) ?_; refine zA3 (zA2 ?_); refine zA rfl (zA1 (v := .int .i64 _) rfl) ?_; refine zA rfl (zA1 (v := zAk ad _) rfl) ?_; refine zA rfl (zC3 [.int .i64 (k : Nat), zAk ad (obCk ob y.1)] uz114 ze114 pl114 rfl (at_one _ _) rfl rfl) ?_; refine zBh (v := .agg _) hs rfl rfl ?_; clear hs; intro b85 w hs
        try simp only [zzs, zzz] at hs
        refine zA rfl (run_mkI uz112 rfl) ?_; refine zA rfl (zA0 (v := .pointer none) rfl) ?_; refine zA rfl (zA0 (v := .iface _ (.pointer (some _))) rfl) ?_; refine zA6 ?_; refine zAc ?_; refine zDy (v := .pointer none) (v2 := .iface _ (.pointer (some _))) rfl rfl rfl ?_
        have hg : obG E ob y.1 = obCk ob y.1 := by rw [obG, if_pos hck]
        have hF : upF E m (bl.map (·.1)) = (obCk ob y.1, some k) := by rw [upF, if_neg (by omega), if_neg (by simpa using h0), if_neg (by rw [hb0]; omega), hup, hg, if_pos hck]
        refine ⟨_, rfl, Or.inl ?_⟩; rw [hF]; exact ⟨hck, b85, rfl, hs.arr [0, 10, 11] 12 (by decide)⟩
      ·
       intro h57; have g57 := of_decide_eq_false h57
       have hke : k = m.obs.length := by omega
       have hF0 : upF E m (bl.map (·.1)) = (0, none) := by rw [upF, if_neg (by omega), if_neg (by simpa using h0), if_neg (by rw [hb0]; omega), hup, hke, List.drop_length]; simp [upG]
       have hxl : xs.length = k := by have := congrArg List.length hxs; simp only [List.length_map, List.length_take] at this; omega
       have hxs2 : xs.map (·.1) = bl.map (·.1) := by rw [hxs, List.take_of_length_le (by rw [hb0]; omega)]
       refine zBp rfl ?_; refine zA3 ?_; refine zAo zBm hs ?_; intro w tr hK; replace hs := tr _ hs; clear tr; refine zA5 0 rfl rfl (fun w hs => zA1 (v := .pointer (some _)) rfl) hK ?_; refine zA5 2 rfl rfl (fun w hs => zA4 (o' := 0) zCe rfl sz3 rfl rfl rfl) hK ?_; refine zA5 3 rfl rfl (fun w hs => zA7 uz3 rfl rfl (hs.cellAt 6 rfl rfl)) hK ?_; refine zAe [1] ?_; refine ⟨⟨_, rfl, ?_⟩, trivial⟩; refine zAb rfl en19 (zE9 (hs.arr [7, 0, 1, 2, 3, 4, 5, 6, 8] 9 (by decide))) ?_; clear hs; rintro _ w ⟨v113, rfl, hs⟩; clear hK; have hK := hs.arr [2, 3, 4, 5, 6, 7, 8, 1, 9] 10 (by decide); refine zA6 ⟨hK, ?_⟩; refine zAe [4] ?_; refine ⟨⟨_, rfl, ?_⟩, trivial⟩
       refine zAb rfl en20 (zE0 hs m.id) ?_; clear hs; rintro _ w ⟨rfl, hs⟩; clear hK; have hK := hs.arr [2, 3, 4, 5, 6, 7, 8, 1, 9] 10 (by decide); refine zA6 ⟨hK, ?_⟩; refine zA5 5 rfl rfl (fun w hs => zA0 (v := .int .i64 _) rfl) hK ?_; refine zAs (by kernel_rfl) ?_; clear hK; replace hs : Mem g w (ucO b52 (upTo d l c E m s1 s2 (k, xs, (a3, c3), (a4, c4))) (m.id, 0, 0, 0) false (cells b10 (mfL m (ea, ec) (oa, oc)) 39 :: zDl l d ev V q cc n :: zBc d dk :: L)) := hs.arr [2, 3, 4, 5, 6, 7, 8, 1, 9] 10 (by decide); refine zA3 ?_; refine zA3 (zA2 ?_); refine zA rfl (zA1 (v := .int .i64 _) rfl) ?_; refine zA rfl (zD2 rfl rfl) ?_; refine zA6 ?_; refine zB1 rfl ?_ ?_
       ·
        intro h118; have g118 := of_decide_eq_true h118; refine zA3 ?_; refine zAo zBm hs ?_; intro w tr hK; replace hs := tr _ hs; clear tr; refine zA5 0 rfl rfl (fun w hs => zA7 zCf rfl rfl (hE.cellW hs 113 (by decide) rfl)) hK ?_; refine zA5 1 rfl rfl (fun w hs => zA0 (v := .pointer none) rfl) hK ?_; refine zA5 2 rfl rfl (fun w hs => zA0 (v := zAk ad _) rfl) hK ?_; refine zAs (by kernel_rfl) ?_; clear hK; refine zAc ?_; refine zDy (v := .pointer none) (v2 := zAk ad _) rfl rfl rfl ?_; exact ⟨_, rfl, Or.inr (Or.inl ⟨by rw [hF0], g118, rfl, hs.suffix 7 rfl⟩)⟩
       ·
        intro h118; have g118 := of_decide_eq_false h118; refine zAd ?_; refine zA3 (zA2 ?_); refine zA rfl (zA1 (v := .pointer (some _)) rfl) ?_; refine zAb rfl en50 (jread_sl hE.uJ (hs.arr [8, 0, 1, 2, 3, 4, 5, 6, 7] 9 (by decide)) hj) ?_; clear hs; rintro _ w ⟨rfl, hs⟩; refine zA rfl (zA1 (v := .tuple _) rfl) ?_; refine zA rfl (zAa (v := .agg _) rfl rfl) ?_; refine zA rfl (zAa (v := .bool _) rfl rfl) ?_; refine zA rfl (zAa (v := zAk ad _) rfl rfl) ?_; refine zBl hs rfl ze103 ?_; clear hs; intro b21 w hs
        try simp only [zzs, zzz] at hs
        refine zAq hs 0 rfl rfl rfl zDr rfl rfl ?_; clear hs; intro w hs
        try simp only [zzs, zzz] at hs
        refine zA rfl (zA0 (v := .bool _) rfl) ?_; refine zA rfl (zA0 (v := zAk ad _) rfl) ?_; refine zA6 ?_; replace hs : Mem g w (cells b21 (s4V (z1, z2, z3, z4)) 103 :: ucO b52 (upTo d l c E m s1 s2 (k, xs, (a3, c3), (a4, c4))) (m.id, 0, 0, 0) false (cells b10 (mfL m (ea, ec) (oa, oc)) 39 :: zDl l d ev V q cc n :: zBc d dk :: L)) := hs.arr [0, 2, 3, 4, 5, 6, 7, 8, 9, 1] 10 (by decide); refine zA3 ?_; refine zA3 (zA2 ?_); refine zA rfl (zA1 (v := zAk ad _) rfl) ?_; refine zA rfl (zAx (ad := ad) rfl) ?_; refine zA6 ?_; refine zB2 rfl (rfl) ?_; refine zAd ?_; refine zA3 ?_; refine zA3 (zA2 ?_); refine zA rfl (zA1 (v := .bool _) rfl) ?_; refine zA rfl (zA1 (v := .bool _) rfl) ?_
        refine zB (t := _) (d := 130) rfl ?_ ?_
        ·
         intro h124; refine zAg rfl rfl h124 ?_; refine zA rfl (zA4 (o' := 0) zCw rfl sz3 rfl rfl rfl) ?_; refine zAg rfl rfl h124 ?_; refine zA rfl (zA7 uz3 rfl rfl (hs.cellAt 0 rfl rfl)) ?_; refine zAg rfl rfl h124 ?_; refine zA rfl (zA4 (o' := 0) zCe rfl sz3 rfl rfl rfl) ?_; refine zAg rfl rfl h124 ?_; refine zA rfl (zA7 uz3 rfl rfl (hs.cellAt 7 rfl rfl)) ?_; refine zAg rfl rfl h124 ?_; refine zA rfl (zBo rfl rfl) ?_; refine zA rfl (zAj (v := .bool _) rfl h124 rfl) ?_; refine zA rfl (zA1 (v := .bool _) rfl) ?_; refine zB (t := _) (d := 137) rfl ?_ ?_
         ·
          intro h135; have g135 := of_decide_eq_true h135; refine zAg rfl rfl h135 ?_; refine zA rfl (zA1 (v := .int .i64 _) rfl) ?_; refine zAg rfl rfl h135 ?_; refine zA rfl (zBo rfl rfl) ?_; refine zA rfl (zAj (v := .bool _) rfl h135 rfl) ?_; refine zA rfl (zA1 (v := .bool _) rfl) ?_; refine zB (t := _) (d := 141) rfl ?_ ?_
          ·
           intro h139; have g139 := of_decide_eq_true h139; refine zAg rfl rfl h139 ?_; refine zA rfl (zA1 (v := .pointer (some _)) rfl) ?_; refine zAg rfl rfl h139 ?_; refine zA rfl (zB8 hs 0 rfl zCw zDr rfl) ?_; refine zAg rfl rfl h139 ?_; refine zAb rfl en51 (fits_sl (t := (upTo d l c E m s1 s2 (k, xs, (a3, c3), (a4, c4)))) (z := (z1, z2, z3, z4)) (hs.arr [1, 2, 3, 4, 5, 6, 0, 7, 8, 9] 10 (by decide)) (show m.obs.length = xs.length by omega) hz) ?_; clear hs; rintro _ w ⟨rfl, hs⟩; refine zA rfl (zAj (v := .bool _) rfl h139 rfl) ?_; refine zA6 ?_; refine zB1 rfl ?_ ?_
           ·
            intro h144; refine zA2 ?_; refine zA rfl (zA1 (v := .pointer (some _)) rfl) ?_; refine zA rfl (zB8 hs 6 rfl zCw zDr rfl) ?_; refine zA rfl (zA8 rfl) ?_; refine zA rfl (zA4 (o' := 11) zCs rfl zDr rfl rfl rfl) ?_; refine lw_storeMid hs 0 (upL (upTo d l c E m s1 s2 (k, xs, (a3, c3), (a4, c4))) (z1, z2, z3, z4) false) rfl rfl rfl zDr rfl rfl rfl ?_; clear hs; intro w hs
            try simp only [zzs, zzz] at hs
            refine zA6 (zA3 (zA2 ?_)); refine zA rfl (zA1 (v := .pointer (some _)) rfl) ?_; refine zA rfl (zA0 (v := .pointer (some _)) rfl) ?_; refine zA rfl (zA0 (v := .nilIface) rfl) ?_; refine zA6 ?_; refine zAc ?_; refine zDy (v := .pointer (some _)) (v2 := .nilIface) rfl rfl rfl ?_; exact ⟨_, rfl, Or.inr (Or.inr ⟨by rw [hF0], by omega, b52, s1, s2, xs, (a3, c3), (a4, c4), rfl, hxs2, by rw [if_pos ⟨h124, g135, g139, by rw [← hxs2]; exact h144⟩]; exact Mem.closeUp (hs.arr [0, 1, 2, 3, 4, 5, 8, 9] 10 (by decide))⟩)⟩
           ·
            intro h144; refine zAd ?_; refine zA3 (zA2 ?_); refine zA rfl (zA1 (v := .pointer (some _)) rfl) ?_; refine zA rfl (zA0 (v := .pointer (some _)) rfl) ?_; refine zA rfl (zA0 (v := .nilIface) rfl) ?_; refine zA6 ?_; refine zAc ?_; refine zDy (v := .pointer (some _)) (v2 := .nilIface) rfl rfl rfl ?_; exact ⟨_, rfl, Or.inr (Or.inr ⟨by rw [hF0], by omega, b52, s1, s2, xs, (a3, c3), (a4, c4), rfl, hxs2, by rw [if_neg (fun h => absurd ((show fitsB E (xs.map (·.1)) (z1, z2, z3, z4) = true from by rw [hxs2]; exact h.2.2.2).symm.trans h144) (by decide))]; exact Mem.closeUp (hs.arr [0, 1, 2, 3, 4, 5, 8, 9] 10 (by decide))⟩)⟩
          ·
           intro h139; have g139 := of_decide_eq_false h139; refine zA9 rfl rfl rfl h139 ?_; refine zA9 rfl rfl rfl h139 ?_; refine zA9 rfl rfl rfl h139 ?_; refine zA rfl (zAf (v := .bool _) rfl h139 rfl) ?_; refine zA6 ?_; refine zB2 rfl rfl ?_; refine zAd ?_; refine zA3 (zA2 ?_); refine zA rfl (zA1 (v := .pointer (some _)) rfl) ?_; refine zA rfl (zA0 (v := .pointer (some _)) rfl) ?_; refine zA rfl (zA0 (v := .nilIface) rfl) ?_; refine zA6 ?_; refine zAc ?_; refine zDy (v := .pointer (some _)) (v2 := .nilIface) rfl rfl rfl ?_
           exact ⟨_, rfl, Or.inr (Or.inr ⟨by rw [hF0], by omega, b52, s1, s2, xs, (a3, c3), (a4, c4), rfl, hxs2, by rw [if_neg (fun h => g139 h.2.2.1)]; exact Mem.closeUp (hs.arr [1, 2, 3, 4, 5, 6, 8, 9] 10 (by decide))⟩)⟩
         ·
          intro h135; have g135 := of_decide_eq_false h135; refine zA9 rfl rfl rfl h135 ?_; refine zA9 rfl rfl rfl h135 ?_; refine zA rfl (zAf (v := .bool _) rfl h135 rfl) ?_; refine zA rfl (zA1 (v := .bool _) rfl) ?_; refine zA9 rfl rfl rfl rfl ?_; refine zA9 rfl rfl rfl rfl ?_; refine zA9 rfl rfl rfl rfl ?_; refine zA rfl (zAf (v := .bool _) rfl rfl rfl) ?_; refine zA6 ?_; refine zB2 rfl rfl ?_; refine zAd ?_; refine zA3 (zA2 ?_); refine zA rfl (zA1 (v := .pointer (some _)) rfl) ?_; refine zA rfl (zA0 (v := .pointer (some _)) rfl) ?_; refine zA rfl (zA0 (v := .nilIface) rfl) ?_; refine zA6 ?_; refine zAc ?_; refine zDy (v := .pointer (some _)) (v2 := .nilIface) rfl rfl rfl ?_
          exact ⟨_, rfl, Or.inr (Or.inr ⟨by rw [hF0], by omega, b52, s1, s2, xs, (a3, c3), (a4, c4), rfl, hxs2, by rw [if_neg (fun h => g135 h.2.1)]; exact Mem.closeUp (hs.arr [1, 2, 3, 4, 5, 6, 8, 9] 10 (by decide))⟩)⟩
        ·
         intro h124; refine zA9 rfl rfl rfl h124 ?_; refine zA9 rfl rfl rfl h124 ?_; refine zA9 rfl rfl rfl h124 ?_; refine zA9 rfl rfl rfl h124 ?_; refine zA9 rfl rfl rfl h124 ?_; refine zA rfl (zAf (v := .bool _) rfl h124 rfl) ?_; refine zA rfl (zA1 (v := .bool _) rfl) ?_; refine zA9 rfl rfl rfl rfl ?_; refine zA9 rfl rfl rfl rfl ?_; refine zA rfl (zAf (v := .bool _) rfl rfl rfl) ?_; refine zA rfl (zA1 (v := .bool _) rfl) ?_; refine zA9 rfl rfl rfl rfl ?_; refine zA9 rfl rfl rfl rfl ?_; refine zA9 rfl rfl rfl rfl ?_; refine zA rfl (zAf (v := .bool _) rfl rfl rfl) ?_; refine zA6 ?_; refine zB2 rfl rfl ?_; refine zAd ?_; refine zA3 (zA2 ?_)
         refine zA rfl (zA1 (v := .pointer (some _)) rfl) ?_; refine zA rfl (zA0 (v := .pointer (some _)) rfl) ?_; refine zA rfl (zA0 (v := .nilIface) rfl) ?_; refine zA6 ?_; refine zAc ?_; refine zDy (v := .pointer (some _)) (v2 := .nilIface) rfl rfl rfl ?_; exact ⟨_, rfl, Or.inr (Or.inr ⟨by rw [hF0], by omega, b52, s1, s2, xs, (a3, c3), (a4, c4), rfl, hxs2, by rw [if_neg (fun h => by have h2 : is = false := h124; rw [h2] at h; exact absurd h.1 (by decide))]; exact Mem.closeUp (hs.arr [1, 2, 3, 4, 5, 6, 8, 9] 10 (by decide))⟩)⟩
end
section
open Go.RowKit
attribute [local irreducible] zAk
variable {g w : World} {L M : List HP} {ad : Nat → Addr} {p : Nat}
def mkM (id base : Nat) (fin : Int) (l : List Pr) : Mf := ⟨id, base, fin, 0, l, [(zDh id zFp base, 0, 0), (zDh id zEf base, 0, 0)]⟩
end
section
open Go.RowKit
attribute [local irreducible] zAk
variable {g w : World} {L M : List HP} {ad : Nat → Addr} {p : Nat} {V : Vw}
theorem aget_last {V : Vw} {id : Int} {a : Itm} (h : zAu V id = none) : zAu (V ++ [(id, a)]) id = some a := by rw [← al_end h, zB4]
theorem aput_last {V : Vw} {id : Int} {a b : Itm} (h : zAu V id = none) : zBv (V ++ [(id, a)]) id b = V ++ [(id, b)] := by
  rw [zB7] at h
  induction V with
  | nil => simp [zBv]
  | cons x l ih =>
    obtain ⟨k, v⟩ := x; simp only [zAh, List.map_cons, List.mem_cons, not_or] at h; simp only [List.cons_append, zBv]; rw [if_neg (fun e => h.1 e.symm), ih h.2]
theorem Vw.apply_first {x : Mf} (hx : (mfF x).1 = 0) (h : zAu V x.id = none) (hl : V.length < 4096) : V.apply 1 x = ((0, none), V ++ [(x.id, ⟨1, x⟩)]) := by
  rw [Vw.apply_new hx (by omega) (by simp [Vw.state, h, nextB]) h, if_neg (by omega), al_end h]
theorem Vw.apply_last {x : Mf} {s k : Int} (hx : (mfF x).1 = 0) (h : zAu V x.id = none) (hn : nextB s k = true) : Vw.apply (V ++ [(x.id, ⟨s, x⟩)]) k x = ((0, none), V ++ [(x.id, ⟨k, x⟩)]) := by
  have hk := nextB_kind hn; rw [Vw.apply_old hx (by omega) (by simp [Vw.state, aget_last h, hn]) (aget_last h), if_pos rfl, aput_last h]
def stN (l : List Int) (id : Nat) : Nat := match l[id]? with | some z => (z % (5 : Nat)).toNat | none => 0
def madeV (l : List Int) (n : Nat) : Vw := (List.range n).filterMap fun id => if stN l id = 0 then none else some ((id : Int), ⟨(stN l id : Nat), oneM id (10 * id)⟩)
end
section
open Go.RowKit
attribute [local irreducible] zAk eV
variable {g w : World} {L M : List HP} {ad : Nat → Addr} {p u n q c d l : Nat} {dk : Dk} {st : St} {t : UpT} {a : S4} {ov : Bool} {V V0 V1 V2 : Vw} {osb K : List (ByteArray × List UInt8)} {cl : Bool}
def UgN (B R F : Nat) (j : Nat) (V : Vw) (q c n : Nat) (dk : Dk) : Prop := q = j ∧ c = j ∧ n = j * F ∧ dk.armed = 0 ∧ dk.room = R ∧ ∃ f mb, RawI UpN B f dk ∧ f mtN = some mb ∧ mb.length = n
theorem lgN (hM : ErrM ad g) {B R F : Nat} (hF : (mfB t.m).length + 17 = F) (h2 : 2 * F ≤ B) (hB : 60 ≤ B ∧ B ≤ 200000) (hR : 7 * B ≤ R) (hm : (mfF t.m).1 = 0) (hob : t.m.obs.length ≤ 1000000) (hsu : ∀ o ∈ t.m.obs, o.2.2 < 4294967296) :
    LgC ad g t (UgN B R F) [] [(t.m.id, ⟨1, t.m⟩)] [(t.m.id, ⟨2, t.m⟩)] := by
  have e1 : Vw.apply [] 1 t.m = ((0, none), [(t.m.id, ⟨1, t.m⟩)]) := Vw.apply_first hm rfl (by decide); have e2 : Vw.apply [(t.m.id, ⟨1, t.m⟩)] 2 t.m = ((0, none), [(t.m.id, ⟨2, t.m⟩)]) := Vw.apply_last (V := []) (s := 1) (k := 2) hm rfl rfl
  have h3 : 2 * UpN.length * B + B ≤ R := by show 2 * 3 * B + B ≤ R; omega
  have key : ∀ {j : Nat} {V V1 : Vw} {k : Int} {q c n : Nat} {dk : Dk} {w : World} {M : List HP}, j ≤ 1 → V.apply k t.m = ((0, none), V1) → UgN B R F j V q c n dk → dk.calls < 800000 → Mem g w (zDl t.l t.d 3 V q c n :: zBc t.d dk :: M) → MfR g M t.m t.s1 t.s2 → Calls Tryz.prog 52 #[.pointer (some ⟨t.l, 0, none⟩), .agg (.int .i64 k :: mfL t.m t.s1 t.s2).toArray] w (Ret fun v w' => ∃ kr dk2 V' q' c' n', v = zAk ad kr ∧ (kr = 0 ∧ V' = V1 ∧ UgN B R F (j + 1) V1 q' c' n' dk2 ∧ dk2.calls ≤ dk.calls + 40) ∧ Mem g w' (zDl t.l t.d 3 V' q' c' n' :: zBc t.d dk2 :: M)) := by
    intro j V V1 k q c n dk w M hj hap hl hcl hs hmr; obtain ⟨rfl, rfl, hn, ha, hr, f, mb, hI, hf, hmb⟩ := hl
    have hjF : c * F ≤ F := by
      rcases (show c = 0 ∨ c = 1 by omega) with rfl | rfl
      · simp
      · simp
    refine (appN_sl hM hs hI up_mt hB.2 hf hmb.symm (by omega) (by rw [hr]; exact h3) (by omega) (by omega) (by decide) (by rw [frame_len, hF]; omega) hmr hob hsu (by rw [hap])).mono ?_; rintro _ w' ⟨v, rfl, kr, dk2, V', q', c', n', rfl, ⟨r1, r2, ⟨rfl, _, r3, rfl, rfl, rfl, rfl, r4⟩ | ⟨_, _, r3, _⟩⟩, hs⟩
    · refine ⟨_, rfl, 0, dk2, _, _, _, _, rfl, ⟨rfl, by rw [hap], ⟨rfl, rfl, by rw [frame_len, hF, hmb, hn, Nat.add_mul, Nat.one_mul], r3 ha, by rw [r1, hr], _, _, r4, updF_same _ _ _, by rw [List.length_append]⟩, by omega⟩, hs⟩
    · exact absurd ha r3
  refine ⟨fun hl hc hs hm => key (by omega) e1 hl hc hs hm, fun hl hc hs hm => key (by omega) e2 hl hc hs hm, fun {q c n dk s} hl h4 => ?_, fun {q c n dk} hl => ?_, rfl, by simp [Vw.state, zAu], by simp [Vw.state, zAu]⟩
  · obtain ⟨r1, r2, hn, ha, hr, f, mb, hI, hf, hmb⟩ := hl
    obtain ⟨k, e, h5, h6, h7, ⟨rfl, _, h8, h9⟩ | ⟨_, _, h8, _⟩⟩ := hI.jput up_up upN_new h4 hB.1 (by rw [hr]; exact h3)
    · exact ⟨e, h5, by omega, fun he => ⟨r1, r2, hn, h8 ha, by rw [h6, hr], _, mb, h9 he, by rw [updF_other _ _ mt_up]; exact hf, hmb⟩⟩
    · exact absurd ha h8
  · obtain ⟨r1, r2, hn, ha, hr, f, mb, hI, hf, hmb⟩ := hl
    obtain ⟨e, h5, h6, h7, h8, h9⟩ := hI.jgone ha up_up; exact ⟨e, h5, by omega, fun he => ⟨r1, r2, hn, h8, by rw [h6, hr], _, mb, h9 he, by rw [clrF_other mt_up]; exact hf, hmb⟩⟩
theorem UgN.zero {B R F : Nat} {f : ByteArray → Option (List UInt8)} (hI : RawI UpN B (zFs f mtN []) dk) (ha : dk.armed = 0) (hr : dk.room = R) : UgN B R F 0 [] 0 0 0 dk := ⟨rfl, rfl, by simp, ha, hr, _, [], hI, updF_same _ _ _, rfl⟩
theorem NewR.fine {each : Int} {m : Mf} {bs : List (List UInt8)} {is : Bool} {z : S4} {R : List HP} {v : Value} {w' : World} (h : NewR ad g each m bs V d l c is z R v w') (h0 : (upF each m bs).1 = 0) (h1 : V.state m.id < 2) (h2 : is = false ∨ z.1 ≠ m.id ∨ V.state m.id ≠ 1) :
    ∃ u s1 s2 xs s3 s4, v = .tuple #[.pointer (some ⟨u, 0, none⟩), .nilIface] ∧ xs.map (·.1) = bs ∧ Mem g w' (UpC u ⟨d, l, c, m, s1, s2, each.toNat, xs, s3, s4⟩ (m.id, 0, 0, 0) false :: R) := by
  rcases h with ⟨h, _⟩ | ⟨_, h, _⟩ | ⟨_, _, u, s1, s2, xs, s3, s4, h3, h4, hs⟩
  · exact absurd h0 h
  · omega
  · rw [if_neg (by rintro ⟨g1, g2, g3, _⟩; rcases h2 with h2 | h2 | h2; rw [h2] at g1; cases g1; exact h2 g2; exact h2 g3)] at hs
    exact ⟨u, s1, s2, xs, s3, s4, h3, h4, hs⟩
theorem NewR.over {each : Int} {m : Mf} {bs : List (List UInt8)} {is : Bool} {z : S4} {R : List HP} {v : Value} {w' : World} (h : NewR ad g each m bs V d l c is z R v w') (h0 : (upF each m bs).1 = 0) (h1 : 2 ≤ V.state m.id) : v = .tuple #[.pointer none, zAk ad 113] ∧ Mem g w' R := by
  rcases h with ⟨h, _⟩ | ⟨_, _, h, hs⟩ | ⟨_, h, _⟩
  · exact absurd h0 h
  · exact ⟨h, hs⟩
  · omega
def osM (m : Mf) (bs : List (List UInt8)) : List (ByteArray × List UInt8) := (m.obs.zip bs).map fun p => (p.1.1, p.2)
theorem osU_eq {xs : List (List UInt8 × SA)} {bs : List (List UInt8)} (h : t.xs.map (·.1) = bs) : osU t = osM t.m bs := by
  subst h
  unfold osU osM
  generalize t.m.obs = os; generalize t.xs = xs
  induction os generalizing xs with
  | nil => simp
  | cons o os ih => cases xs with
    | nil => simp
    | cons x xs => simp [ih]
theorem upOk_mk {each : Int} {bs : List (List UInt8)} {m : Mf} {s1 s2 s3 s4 : SA} {xs : List (List UInt8 × SA)} (h1 : 1 ≤ each ∧ each ≤ 1000) (hxs : xs.map (·.1) = bs) (hl : m.obs.length = bs.length) (h2 : bs.length ≤ 2) (hO : OsF osb) (hs : ∀ o ∈ osM m bs, o ∈ osb) (hid : 0 ≤ m.id ∧ m.id ≤ 2147483647) :
    UpOk osb ⟨d, l, c, m, s1, s2, each.toNat, xs, s3, s4⟩ := by
  have h3 : xs.length = bs.length := by rw [← hxs, List.length_map]
  exact ⟨⟨by simp only; omega, by simp only; omega⟩, by simp only; omega, by simp only; omega, hO, by rw [osU_eq (xs := xs) (bs := bs) hxs]; exact hs, hid⟩
theorem StI.start {Lg : Nat → Vw → Nat → Nat → Nat → Dk → Prop} (hp : PIn osb K st) (hcl : cl = true → st.script = [] ∧ st.ups = []) (hL : Lg 0 V0 q c n dk) : StI osb K t cl Lg V0 V1 V2 0 (t.m.id, 0, 0, 0) false V0 q c n dk st (restM t.each (osU t) + 2) := ⟨rfl, hL, .inl ⟨rfl, rfl, rfl, hp, hcl, rfl⟩⟩
theorem StI.zero {Lg : Nat → Vw → Nat → Nat → Nat → Dk → Prop} {s M0 : Nat} (h : StI osb K t cl Lg V0 V1 V2 s a ov V q c n dk st M0) : s = 2 ↔ M0 = 0 := by
  obtain ⟨_, _, ⟨rfl, _, _, _, _, rfl⟩ | ⟨rfl, _, _, _, rfl⟩ | ⟨rfl, _, _, _, _, rfl⟩⟩ := h
  · constructor <;> intro h <;> omega
  · constructor <;> intro h <;> omega
  · exact ⟨fun _ => rfl, fun _ => rfl⟩
theorem StI.done {Lg : Nat → Vw → Nat → Nat → Nat → Dk → Prop} {M0 : Nat} (h : StI osb K t cl Lg V0 V1 V2 2 a ov V q c n dk st M0) : V = V2 ∧ Lg 2 V2 q c n dk ∧ PIn osb (K ++ osU t) st ∧ (∀ o ∈ osU t, zAu st.objs o.1 = some o.2) ∧ (cl = true → st.ups = []) := by
  obtain ⟨hV, hl, ⟨h, _⟩ | ⟨h, _⟩ | ⟨_, _, h1, h2, h3, _⟩⟩ := h
  · cases h
  · cases h
  · have hV : V = V2 := hV
    subst hV; exact ⟨rfl, hl, h1, h2, fun hc => (h3 hc).2⟩
theorem StI.state {Lg : Nat → Vw → Nat → Nat → Nat → Dk → Prop} {s M0 : Nat} (hL : LgC ad g t Lg V0 V1 V2) (h : StI osb K t cl Lg V0 V1 V2 s a ov V q c n dk st M0) : V.state t.m.id = s ∧ s ≤ 2 := by
  obtain ⟨rfl, _, ⟨rfl, _⟩ | ⟨rfl, _⟩ | ⟨rfl, _⟩⟩ := h
  · exact ⟨hL.s0, by omega⟩
  · exact ⟨hL.s1, by omega⟩
  · exact ⟨hL.s2, by omega⟩
theorem obG_fine {each : Int} {o : Ob} {b : List UInt8} (h1 : 1 ≤ each ∧ each ≤ 1000) (hb : b.length ≤ 256) (hv : zBs o.1.data.toList = true) (hl : o.2.1 = (b.length : Nat)) (hc : o.2.2 = zBw 0 b) : obG each o b = 0 := by
  have hck : obCk o b = 0 := by rw [obCk, if_neg (by rw [hl]; exact fun h => h rfl), if_neg (by rw [hc]; exact fun h => h rfl)]
  have hP := zD4 (n := b.length) (e := each.toNat) (by omega); rw [obG, if_neg (by rw [hck]; exact fun h => h rfl), mkR, if_neg (by rw [hv]; decide), if_neg (by omega), if_neg (by omega)]
theorem upF_two {each : Int} {m : Mf} {o1 o2 : Ob} {b1 b2 : List UInt8} (h1 : 1 ≤ each ∧ each ≤ 1000) (hm : (mfF m).1 = 0) (ho : m.obs = [o1, o2]) (g1 : obG each o1 b1 = 0) (g2 : obG each o2 b2 = 0) : (upF each m [b1, b2]).1 = 0 := by
  rw [upF, if_neg (by omega), if_neg (by rw [hm]; exact fun h => h rfl), if_neg (by rw [ho]; exact fun h => h rfl), ho]
  simp [upG, g1, g2]
end
section
open Go.RowKit
attribute [local irreducible] zAk eV
variable {g w : World} {L M : List HP} {ad : Nat → Addr} {p : Nat} {dk : Dk} {st : St} {f : ByteArray → Option (List UInt8)}
def mkG (id base : Nat) (fin time : Int) (l : List Pr) (x y : List UInt8) : Mf := ⟨id, base, fin, time, l, [(zDh id zFp base, (x.length : Nat), zBw 0 x), (zDh id zEf base, (y.length : Nat), zBw 0 y)]⟩
theorem obBad_len {n : ByteArray} {k c : Nat} (hk : k ≤ 1000) : zCz (n, (k : Int), c) = zCz (n, 0, 0) := by
  unfold zCz
  simp only
  split
  · rfl
  · rw [if_neg (by omega), if_neg (by omega)]
theorem obF_two {n1 n2 : ByteArray} {k1 k2 c1 c2 : Nat} (h : obF [(n1, 0, 0), (n2, 0, 0)] = (0, none)) (h1 : k1 ≤ 1000) (h2 : k2 ≤ 1000) : obF [(n1, (k1 : Int), c1), (n2, (k2 : Int), c2)] = (0, none) := by
  have b1 : zCz (n1, 0, 0) = 0 := Decidable.byContradiction fun hb => by
    rw [obF_bad (i := 0) (by simp) rfl hb (fun j hj => by omega)] at h; exact hb (congrArg Prod.fst h)
  have b2 : zCz (n2, 0, 0) = 0 := Decidable.byContradiction fun hb => by
    rw [obF_bad (i := 1) (by simp) rfl hb (fun j hj u hu => by
      have : j = 0 := by omega
      subst this
      cases hu
      exact b1)] at h
    exact hb (congrArg Prod.fst h)
  rw [obF_fine (by simp) (fun j u hu => by
    match j, hu with
    | 0, hu => cases hu; exact b1
    | 1, hu => cases hu; exact b2)] at h
  rw [obF_fine (by simp) (fun j u hu => by
    match j, hu with
    | 0, hu => cases hu; rw [obBad_len h1]; exact b1
    | 1, hu => cases hu; rw [obBad_len h2]; exact b2)]
  exact h
theorem mkG_F {id base : Nat} {fin time : Int} {l : List Pr} {x y : List UInt8} (h0 : mfF ⟨id, base, fin, time, l, [(zDh id zFp base, 0, 0), (zDh id zEf base, 0, 0)]⟩ = (0, none)) (hx : x.length ≤ 1000) (hy : y.length ≤ 1000) : mfF (mkG id base fin time l x y) = (0, none) := by
  unfold mfF at h0 ⊢
  have e1 : zBe (mkG id base fin time l x y) = zBe ⟨id, base, fin, time, l, [(zDh id zFp base, 0, 0), (zDh id zEf base, 0, 0)]⟩ := rfl; have e2 : zD1 (mkG id base fin time l x y) = zD1 ⟨id, base, fin, time, l, [(zDh id zFp base, 0, 0), (zDh id zEf base, 0, 0)]⟩ := rfl; have e3 : (mkG id base fin time l x y).eps = l := rfl; rw [e1, e2, e3]
  split at h0
  · cases h0
  · rename_i g1
    rw [if_neg g1]
    split at h0
    · rename_i g2; exact absurd (congrArg Prod.fst h0) g2
    · rename_i g2
      rw [if_neg g2]
      split at h0
      · cases h0
      · rename_i g3
        rw [if_neg g3]; exact obF_two h0 hx hy
set_option maxRecDepth 100000 in
set_option maxHeartbeats 2000000 in
theorem makeG_sl (hs : Mem g w L) {id base : Nat} {fin time : Int} {a a1 a2 : Option Addr} {n c c1 c2 : Nat} {l : List Pr} {x y : List UInt8} (hr : RdK g L 2 (.slice a n c) (l.map prL)) (hn : n = l.length) (hlen : 1 ≤ l.length ∧ l.length ≤ 1000000) (hx : Rd g L (.slice a1 x.length c1) (zAm x)) (hy : Rd g L (.slice a2 y.length c2) (zAm y)) (hxl : x.length ≤ 1000) (hyl : y.length ≤ 1000) (hid : id ≤ 2147483647) (hb : base ≤ 1099511627776) (hF : mfF (mkG id base fin time l x y) = (0, none)) :
    Calls Tryz.prog 14 #[.int .i64 id, .int .i64 base, .int .i64 fin, .int .i64 time, .slice a n c, .slice a1 x.length c1, .slice a2 y.length c2] w (Ret fun v w' => ∃ s1 s2 : SA, v = .tuple #[.agg (mfL (mkG id base fin time l x y) s1 s2).toArray, fltV (0, none)] ∧ Mem g w' (mfP (mkG id base fin time l x y) s1 s2 ++ L)) := by
  subst hn; refine zAi Tryz.func14 rfl rfl ?_
  skip
  refine zA3 (zA2 ?_); refine zBl hs rfl ze39 ?_; clear hs; intro b14 w hs
  try simp only [zzs, zzz] at hs
  refine zBl hs rfl ze42 ?_; clear hs; intro b15 w hs
  try simp only [zzs, zzz] at hs
  refine zA6 (zA3 (zA2 ?_)); refine zA rfl (zA1 (v := .int .i64 _) rfl) ?_; refine zA rfl (zA1 (v := .int .i64 _) rfl) ?_; refine zA rfl (zA1 (v := .int .i64 _) rfl) ?_; refine zA rfl (zA1 (v := .int .i64 _) rfl) ?_; refine zA rfl (zA1 (v := .slice _ _ _) rfl) ?_; refine zAb rfl en42 (copyPr_sl hs hr.cons.cons rfl hlen) ?_; clear hs; rintro _ w ⟨s1, rfl, hs⟩; refine zA rfl (zBt (cs := [.int .i64 id, .int .i64 base, .int .i64 fin, .int .i64 time, .slice s1.1 l.length s1.2, .slice none 0 0]) zCe ze39 pl39 rfl) ?_; refine zBl hs rfl ze39 ?_; clear hs; intro b16 w hs
  try simp only [zzs, zzz] at hs
  refine zAq hs 0 rfl rfl rfl zEe rfl rfl ?_; clear hs; intro w hs
  try simp only [zzs, zzz] at hs
  refine zA6 (zA3 (zA2 ?_)); refine zA rfl (zA1 (v := .int .i64 _) rfl) ?_; refine zA rfl (zA1 (v := .int .i64 _) rfl) ?_; refine zAb rfl en43 (objNm_sl hs id base zFp hid hb (by decide) (by decide)) ?_; clear hs; rintro _ w ⟨rfl, hs⟩; refine zA rfl (zA1 (v := .slice _ _ _) rfl) ?_; refine zA rfl (zAv zCo rfl) ?_; refine zA rfl (zA1 (v := .slice _ _ _) rfl) ?_; refine zAb rfl en44 (hs.callsE (refSum_any (w := w) (b := .slice a1 x.length c1) (l := x) ((hx.cons.cons.cons.cons).seq hs) (by omega))) ?_; clear hs; rintro _ w ⟨rfl, hs⟩
  refine zA rfl (zC3 ([.string (zDh id zFp base), .int .i64 ((x.length : Nat) : Int), .int .u32 ((zBw 0 x : Nat) : Int)]) uz66 ze66 pl66 rfl (by simp [Value.cells]) rfl rfl) ?_; refine zA rfl (zA1 (v := .int .i64 _) rfl) ?_; refine zA rfl (zA1 (v := .int .i64 _) rfl) ?_; refine zAb rfl en43 (objNm_sl hs id base zEf hid hb (by decide) (by decide)) ?_; clear hs; rintro _ w ⟨rfl, hs⟩; refine zA rfl (zA1 (v := .slice _ _ _) rfl) ?_; refine zA rfl (zAv zCo rfl) ?_; refine zA rfl (zA1 (v := .slice _ _ _) rfl) ?_; refine zAb rfl en44 (hs.callsE (refSum_any (w := w) (b := .slice a2 y.length c2) (l := y) ((hy.cons.cons.cons.cons).seq hs) (by omega))) ?_; clear hs; rintro _ w ⟨rfl, hs⟩
  refine zA rfl (zC3 ([.string (zDh id zEf base), .int .i64 ((y.length : Nat) : Int), .int .u32 ((zBw 0 y : Nat) : Int)]) uz66 ze66 pl66 rfl (by simp [Value.cells]) rfl rfl) ?_; refine lw_build2 hs rfl (r1 := obL (zDh id zFp base, (x.length : Nat), zBw 0 x)) (r2 := obL (zDh id zEf base, (y.length : Nat), zBw 0 y)) zDv zsOb rfl rfl (fill_ob _ _ _ _ _ _) (by decide) (by decide) ?_; clear hs; intro b41 w hs; replace hs := hs.asRows 0 rfl (m := 2) (k := 3) (rows := [obL (zDh id zFp base, (x.length : Nat), zBw 0 x), obL (zDh id zEf base, (y.length : Nat), zBw 0 y)]) rfl rfl (obL_rows [(zDh id zFp base, (x.length : Nat), zBw 0 x), (zDh id zEf base, (y.length : Nat), zBw 0 y)])
  simp only [List.set_cons_zero] at hs; refine zA rfl (zA4 (o' := 5) zCe rfl sz37 rfl rfl rfl) ?_; refine zB5 (v := .slice _ _ _) hs 1 rfl sz37 rfl rfl rfl rfl ?_; clear hs; intro w hs
  try simp only [zzs, zzz] at hs
  refine zA6 (zA3 (zA2 ?_)); refine zA rfl (zB8 hs 1 rfl zCe zEe rfl) ?_; refine zAb rfl en23 (rManifest_sl (m := mkG id base fin time l x y) (e := s1) (o := (some ⟨b41, 0, none⟩, 2)) hs (MfR.own 2 0 rfl rfl) (by simp [mkG])) ?_; clear hs; rintro _ w ⟨rfl, hs⟩; rw [hF]; refine zBl hs rfl ze42 ?_; clear hs; intro b17 w hs
  try simp only [zzs, zzz] at hs
  refine zAq hs 0 rfl rfl rfl zFt rfl rfl ?_; clear hs; intro w hs
  try simp only [zzs, zzz] at hs
  refine zA6 ?_; refine zA3 ?_; refine zA3 (zA2 ?_); refine zA rfl (zA4 (o' := 0) uz42 rfl sz3 rfl rfl rfl) ?_; refine zA rfl (zA7 uz3 rfl rfl (hs.cellAt 0 rfl rfl)) ?_; refine zA rfl (zDp rfl rfl) ?_; refine zA6 ?_; refine zB2 rfl (rfl) ?_; refine zAd ?_; refine zA3 ?_; refine zAo zBm ((hs.drop 5).drop 4) ?_; intro w tr hK; replace hs := tr _ hs; clear tr; refine zA5 0 rfl rfl (fun w hs => zB8 hs 2 rfl zCe zEe rfl) hK ?_; refine zAe [1] ?_; refine ⟨⟨_, rfl, ?_⟩, trivial⟩; refine zAb rfl en22 (none_sl hs) ?_; clear hs; rintro _ w ⟨rfl, hs⟩; clear hK; have hK := (hs.drop 5).drop 4; refine zA6 ⟨hK, ?_⟩; refine zAe [2] ?_; refine ⟨⟨_, rfl, ?_⟩, trivial⟩
  refine zAq hs 5 rfl rfl rfl zEe rfl rfl ?_; clear hs; intro w hs
  try simp only [zzs, zzz] at hs
  clear hK; have hK := (hs.drop 5).drop 4; refine zA6 ⟨hK, ?_⟩; refine zAe [3] ?_; refine ⟨⟨_, rfl, ?_⟩, trivial⟩; refine zAq hs 4 rfl rfl rfl zFt rfl rfl ?_; clear hs; intro w hs
  try simp only [zzs, zzz] at hs
  clear hK; have hK := (hs.drop 5).drop 4; refine zA6 ⟨hK, ?_⟩; refine zAs (by kernel_rfl) ?_; clear hK; refine zAc ?_; refine resG [(.cell 14 39, .agg _), (.cell 15 42, .agg _)] rfl ⟨⟨_, rfl, zC5 hs 5 rfl zCe zEe⟩, ⟨_, rfl, zC5 hs 4 rfl uz42 zFt⟩, trivial⟩ ?_; exact ⟨_, rfl, s1, (some ⟨b41, 0, none⟩, 2), rfl, hs.arr [3, 1] 6 (by decide)⟩
abbrev zC (id : Nat) (x y : List UInt8) : Mf := mkG id 10 20 5 [(1, 10)] x y
theorem man21_sl (hs : Mem g w L) {id : Nat} (hid : id ≤ 2147483647) {a1 a2 : Option Addr} {c1 c2 : Nat} {x y : List UInt8} (hx : Rd g L (.slice a1 x.length c1) (zAm x)) (hy : Rd g L (.slice a2 y.length c2) (zAm y)) (hxl : x.length ≤ 1000) (hyl : y.length ≤ 1000) (hF : mfF (zC id x y) = (0, none)) :
    Calls Tryz.prog 13 #[.int .i64 id, .slice a1 x.length c1, .slice a2 y.length c2] w (Ret fun v w' => ∃ s1 s2 : SA, v = .agg (mfL (zC id x y) s1 s2).toArray ∧ Mem g w' (mfP (zC id x y) s1 s2 ++ L)) := by
  refine zAi Tryz.func13 rfl rfl ?_
  skip
  refine zA3 (zA2 ?_); refine zBl hs rfl ze39 ?_; clear hs; intro b6 w hs
  try simp only [zzs, zzz] at hs
  refine zA6 (zA3 (zA2 ?_)); refine zA rfl (zA1 (v := .int .i64 _) rfl) ?_; refine zA rfl (zC3 ([.int .i64 1, .int .i64 10]) uz46 ze46 pl46 rfl (by simp [Value.cells]) rfl rfl) ?_; refine zDd hs rfl (row := prL (1, 10)) zDz zsPr rfl (fill_pr _ _) (by decide) (by decide) ?_; clear hs; intro b12 w hs; refine zA rfl (zA1 (v := .slice _ _ _) rfl) ?_; refine zA rfl (zA1 (v := .slice _ _ _) rfl) ?_; refine zAb rfl en14 (makeG_sl hs (id := id) (base := 10) (fin := 20) (time := 5) (l := [(1, 10)]) (RdK.one 0 rfl rfl) rfl (by simp) hx.cons.cons hy.cons.cons hxl hyl hid (by omega) hF) ?_; clear hs; rintro _ w ⟨s1, s2, rfl, hs⟩; refine zA rfl (zA1 (v := .tuple _) rfl) ?_
  refine zA rfl (zAa (v := .agg _) rfl rfl) ?_; refine zA rfl (zAa (v := .agg _) rfl rfl) ?_; refine zBl hs rfl ze39 ?_; clear hs; intro b7 w hs
  try simp only [zzs, zzz] at hs
  refine zBl hs rfl ze42 ?_; clear hs; intro b8 w hs
  try simp only [zzs, zzz] at hs
  refine zAq hs 1 rfl rfl rfl zEe rfl rfl ?_; clear hs; intro w hs
  try simp only [zzs, zzz] at hs
  refine zAq hs 0 rfl rfl rfl zFt rfl rfl ?_; clear hs; intro w hs
  try simp only [zzs, zzz] at hs
  refine zA6 (zA3 (zA2 ?_)); refine zA rfl (zB8 hs 1 rfl zCe zEe rfl) ?_; refine zAq hs 5 rfl rfl rfl zEe rfl rfl ?_; clear hs; intro w hs
  try simp only [zzs, zzz] at hs
  refine zA6 ?_; refine zAc ?_; refine resG [(.cell 6 39, .agg _)] rfl ⟨⟨_, rfl, zC5 hs 5 rfl zCe zEe⟩, trivial⟩ ?_; exact ⟨_, rfl, s1, s2, rfl, hs.arr [2, 3] 6 (by decide)⟩
theorem opened_sl (hM : ErrM ad g) (hG : ErrG ad g) (hs : Mem g w (zBc p dk :: L)) {sp : Nat} {N : List ByteArray} {B : Nat} (hI : RawI N B f dk) (hmt : mtN ∈ N) (hsn : snN ∈ N) (ha : dk.armed = 0) (hcl : dk.calls < 800000) (hfn : f snN = none) (hfm : f mtN = none) {tr : Int} (htr : 1 ≤ tr ∧ tr ≤ 8) :
    Calls Tryz.prog 12 #[.pointer (some ⟨p, 0, none⟩), .pointer (some ⟨sp, 0, none⟩), .int .i64 tr] w (Ret fun v w' => ∃ l c dk2, v = .tuple #[.pointer (some ⟨l, 0, none⟩), .pointer (some ⟨c, 0, none⟩)] ∧ dk2.armed = 0 ∧ dk2.room = dk.room ∧ dk2.calls ≤ dk.calls + 2 ∧ RawI N B (zFs f mtN []) dk2 ∧ Mem g w' (zBb c sp tr 0 :: zDl l p 3 [] 0 0 0 :: zBc p dk2 :: L)) := by
  refine zAi Tryz.func12 rfl rfl ?_
  skip
  refine zA3 (zA2 ?_); refine zA rfl (zA0 (v := .pointer none) rfl) ?_; refine zA rfl (zA0 (v := .pointer none) rfl) ?_; refine zA6 (zA3 (zA2 ?_)); refine zA rfl (zA1 (v := .pointer (some _)) rfl) ?_; refine zAb rfl en40 (openN_sl (ev := 3) hM hs hI hmt hsn ha hcl (by decide) hfn hfm) ?_; clear hs; rintro _ w ⟨l, dk2, rfl, k1, k2, k3, k4, hs⟩; refine zA rfl (zA1 (v := .tuple _) rfl) ?_; refine zA rfl (zAa (v := .pointer (some _)) rfl rfl) ?_; refine zA rfl (zAa (v := .nilIface) rfl rfl) ?_; refine zA rfl (zA0 (v := .pointer (some _)) rfl) ?_; refine zA rfl (zA0 (v := .nilIface) rfl) ?_; refine zA6 (zA3 (zA2 ?_)); refine zA rfl (zA1 (v := .pointer (some _)) rfl) ?_
  refine zA rfl (zA1 (v := .int .i64 _) rfl) ?_; refine zAb rfl en41 (clnew_sl hG hs htr) ?_; clear hs; rintro _ w ⟨c, rfl, hs⟩; refine zA rfl (zA1 (v := .tuple _) rfl) ?_; refine zA rfl (zAa (v := .pointer (some _)) rfl rfl) ?_; refine zA rfl (zAa (v := .nilIface) rfl rfl) ?_; refine zA rfl (zA0 (v := .pointer (some _)) rfl) ?_; refine zA rfl (zA0 (v := .nilIface) rfl) ?_; refine zA6 ?_; refine zA3 ?_; refine zA3 (zA2 ?_); refine zA rfl (zA1 (v := .pointer (some _)) rfl) ?_; refine zA rfl (zCv uz32 rfl rfl) ?_; refine zA rfl (zA1 (v := .bool _) rfl) ?_; refine zAg rfl rfl (rfl) ?_; refine zA rfl (zA1 (v := .pointer (some _)) rfl) ?_; refine zAg rfl rfl (rfl) ?_
  refine zA rfl (zCv uz33 rfl rfl) ?_; refine zA rfl (zAf (v := .bool _) rfl (rfl) rfl) ?_; refine zA rfl (zA1 (v := .bool _) rfl) ?_; refine zAg rfl rfl (rfl) ?_; refine zA rfl (zA1 (v := .nilIface) rfl) ?_; refine zAg rfl rfl (rfl) ?_; refine zA rfl (zC9 rfl) ?_; refine zA rfl (zAf (v := .bool _) rfl (rfl) rfl) ?_; refine zA rfl (zA1 (v := .bool _) rfl) ?_; refine zAg rfl rfl (rfl) ?_; refine zA rfl (zA1 (v := .nilIface) rfl) ?_; refine zAg rfl rfl (rfl) ?_; refine zA rfl (zC9 rfl) ?_; refine zA rfl (zAf (v := .bool _) rfl (rfl) rfl) ?_; refine zA6 ?_; refine zB2 rfl (rfl) ?_; refine zAd ?_; refine zA3 (zA2 ?_); refine zA rfl (zA1 (v := .pointer (some _)) rfl) ?_
  refine zA rfl (zA1 (v := .pointer (some _)) rfl) ?_; refine zA rfl (zA0 (v := .pointer (some _)) rfl) ?_; refine zA rfl (zA0 (v := .pointer (some _)) rfl) ?_; refine zA6 ?_; refine zAc ?_; refine zDy (v := .pointer (some _)) (v2 := .pointer (some _)) rfl rfl rfl ?_; exact ⟨_, rfl, l, c, dk2, rfl, k1, k2, k3, k4, hs⟩
end
section
open Go.RowKit
def NumPost (b : Nat) (w : World) (e : Ending) (w' : World) : Prop := ∃ r : Nat, r < b ∧ e = .returned (.int .i64 r) ∧ w' = w
def NumLit (b : Int) (w : World) (e : Ending) (w' : World) : Prop := ∃ r : Nat, (r : Int) < b ∧ e = .returned (.int .i64 r) ∧ w' = w
theorem oneU8 (l : List UInt8) {i : Nat} {v : Value} (h : (zAm l)[i]? = some v) : ∃ x, l[i]? = some x ∧ v = .int .u8 x.toNat := by
  simp only [zAm, List.getElem?_map, Option.map_eq_some_iff] at h; obtain ⟨x, hx, rfl⟩ := h; exact ⟨x, hx, rfl⟩
set_option maxRecDepth 100000 in
theorem sameBytes_any {w : World} {a b : Value} {l : List UInt8} (ha : zEd w a (zAm l)) (hb : zEd w b (zAm l)) (hlen : l.length ≤ 1073741824) : Calls Tryz.prog 55 #[a, b] w (BoolNew true w) := by
  have HA := Lib.hid ha; have HB := Lib.hid hb; obtain ⟨aa, an, ac, rfl, hal, ha2⟩ := id ha; obtain ⟨ba, bn, bc, rfl, hbl, hb2⟩ := id hb
  have hal' : an = l.length := by simpa [zAm] using hal
  have hbl' : bn = l.length := by simpa [zAm] using hbl
  clear hal hbl; subst hal'; subst hbl'; clear ha hb ha2 hb2
  go_enter Tryz.func55, Tryz.ntmps55
  go_wp2
  go_loopw [5, 6] (fun i same wr => ∃ k : Nat, k ≤ l.length ∧ i = .int .i64 k ∧ Below w.heap.size w wr) (fun i _ _ => l.length - (intOf i).toNat)
  case atStart => exact ⟨0, Nat.zero_le _, rfl, Below.refl _ _⟩
  case round =>
    obtain ⟨k, hk, rfl, hbel⟩ := hrel; have Hbel := Lib.hid hbel; clear hbel
    by_cases hkl : k < l.length
    · obtain ⟨b1, o1, rfl, lt1, hc1⟩ := HA.out.cell hkl
      obtain ⟨b2, o2, rfl, lt2, hc2⟩ := HB.out.cell hkl
      have hk' : k < (zAm l).length := by simpa [zAm] using hkl
      have c1 : wr.cell? ⟨b1, o1 + k, none⟩ = some (zAm l)[k] := (Hbel.out.cell (p := ⟨b1, o1 + k, none⟩) lt1).trans (hc1 k hk'); have c2 : wr.cell? ⟨b2, o2 + k, none⟩ = some (zAm l)[k] := (Hbel.out.cell (p := ⟨b2, o2 + k, none⟩) lt2).trans (hc2 k hk'); obtain ⟨x, _, hx⟩ := oneU8 l (List.getElem?_eq_getElem hk'); rw [hx] at c1 c2; clear hc1 hc2 hx hk'
      go_wp2
      go_region_held3 (fun w' => w'.cell? ⟨b1, o1 + k, none⟩ = some (.int .u8 x.toNat) ∧ w'.cell? ⟨b2, o2 + k, none⟩ = some (.int .u8 x.toNat)) (go_keep) (first | (fail))
      go_wp2
      go_roundw
      case rel =>
        exact ⟨k + 1, by omega, by go_num, Hbel.out.drew⟩
      case measure => simp [intOf]; omega
    · have : k = l.length := by omega
      subst this
      go_wp2
      go_ret
      exact ⟨rfl, Hbel.out⟩
end
section
open Go.RowKit
attribute [local irreducible] zAk eV
variable {g w : World} {L M : List HP} {ad : Nat → Addr} {p u n q c d l : Nat} {dk : Dk} {st : St} {V : Vw}
theorem sameBytes_sl (hs : Mem g w L) {a b : Value} {l : List UInt8} (ha : Rd g L a (zAm l)) (hb : Rd g L b (zAm l)) (hlen : l.length ≤ 1073741824) : Calls Tryz.prog 55 #[a, b] w (Ret fun v w' => v = .bool true ∧ Mem g w' L) := by
  have h := hs.calls (sameBytes_any (ha.seq hs) (hb.seq hs) hlen); exact h
theorem laid_sl (hs : Mem g w (zB6 p st :: L)) (hsm : st.small) {m : Mf} {e o : SA} (hm : MfR g L m e o) {o0 o1 : Ob} (h0 : m.obs[0]? = some o0) (h1 : m.obs[1]? = some o1) {x y : List UInt8} (hx : zAu st.objs o0.1 = some x) (hy : zAu st.objs o1.1 = some y) {a1 a2 : Option Addr} {c1 c2 : Nat} (hr1 : Rd g L (.slice a1 x.length c1) (zAm x)) (hr2 : Rd g L (.slice a2 y.length c2) (zAm y)) (hxl : x.length ≤ 1000) (hyl : y.length ≤ 1000) :
    Calls Tryz.prog 18 #[.pointer (some ⟨p, 0, none⟩), .agg (mfL m e o).toArray, .slice a1 x.length c1, .slice a2 y.length c2] w (Ret fun v w' => v = .bool true ∧ Mem g w' (zB6 p st :: L)) := by
  obtain ⟨oa, oc⟩ := o; have hl2 := (List.getElem?_eq_some_iff.1 h1).1; refine zAi Tryz.func18 rfl rfl ?_
  skip
  refine zA3 (zA2 ?_); refine zBh (v := .agg _) hs rfl rfl ?_; clear hs; intro b5 w hs
  try simp only [zzs, zzz] at hs
  refine zA rfl (zA0 (v := .bool _) rfl) ?_; refine zA6 ?_; refine zA3 ?_; obtain ⟨bo, oo, rfl⟩ := hm.obs.at (hs.suffix 2 rfl) (by rw [zEk]; omega); refine zA2 ?_; refine zA rfl (zA1 (v := .pointer (some _)) rfl) ?_; refine zA rfl (zA4 (o' := 5) zCe rfl sz37 rfl rfl rfl) ?_; refine zA rfl (zA7 zDv rfl rfl (hs.cellAt 0 rfl rfl)) ?_; refine zA rfl (zAt zDv sz66 rfl rfl (i := 0) rfl (show 0 < m.obs.length by omega) rfl) ?_; refine zA rfl (zA4 uz66 rfl sz9 rfl rfl rfl) ?_; refine zA rfl (zA7 uz9 rfl rfl (hm.obs.cell (hs.suffix 2 rfl) (zFi h0) (j := 0) rfl)) ?_; refine zAb rfl en39 (bytes_sl (hs.arr [1, 0] 2 (by decide)) hsm o0.1 hx) ?_; clear hs; rintro _ w ⟨a20, c20, rfl, hs⟩
  refine zA rfl (zA1 (v := .tuple _) rfl) ?_; refine zA rfl (zAa (v := .slice _ _ _) rfl rfl) ?_; refine zA rfl (zAa (v := .bool _) rfl rfl) ?_; refine zA rfl (zA0 (v := .slice _ _ _) rfl) ?_; refine zA rfl (zA0 (v := .bool _) rfl) ?_; refine zA6 (zA3 (zA2 ?_)); refine zA rfl (zA1 (v := .pointer (some _)) rfl) ?_; refine zA rfl (zA4 (o' := 5) zCe rfl sz37 rfl rfl rfl) ?_; refine zA rfl (zA7 zDv rfl rfl (hs.cellAt 2 rfl rfl)) ?_; refine zA rfl (zAt zDv sz66 rfl rfl (i := 1) rfl (show 1 < m.obs.length by omega) rfl) ?_; refine zA rfl (zA4 uz66 rfl sz9 rfl rfl rfl) ?_; refine zA rfl (zA7 uz9 rfl rfl (hm.obs.cell (hs.suffix 3 rfl) (zFi h1) (j := 0) rfl)) ?_
  refine zAb rfl en39 (bytes_sl (hs.arr [1, 0, 2] 3 (by decide)) hsm o1.1 hy) ?_; clear hs; rintro _ w ⟨a30, c30, rfl, hs⟩; refine zA rfl (zA1 (v := .tuple _) rfl) ?_; refine zA rfl (zAa (v := .slice _ _ _) rfl rfl) ?_; refine zA rfl (zAa (v := .bool _) rfl rfl) ?_; refine zA rfl (zA0 (v := .slice _ _ _) rfl) ?_; refine zA rfl (zA0 (v := .bool _) rfl) ?_; refine zA6 (zA3 (zA2 ?_)); refine zA rfl (zA1 (v := .bool _) rfl) ?_; refine zA rfl (zA1 (v := .bool _) rfl) ?_; refine zAg rfl rfl (rfl) ?_; refine zA rfl (zA1 (v := .bool _) rfl) ?_; refine zA rfl (zAj (v := .bool _) rfl (rfl) rfl) ?_; refine zA rfl (zA1 (v := .bool _) rfl) ?_; refine zAg rfl rfl (rfl) ?_
  refine zA rfl (zA1 (v := .slice _ _ _) rfl) ?_; refine zAg rfl rfl (rfl) ?_; refine zA rfl (zA1 (v := .slice _ _ _) rfl) ?_; refine zAg rfl rfl (rfl) ?_; refine zAb rfl en55 (sameBytes_sl hs (l := x) (hs.rdOwn 2 rfl) (fun w hs => hr1 w (hs.suffix 4 rfl)) (by omega)) ?_; clear hs; rintro _ w ⟨rfl, hs⟩; refine zA rfl (zAj (v := .bool _) rfl (rfl) rfl) ?_; refine zA rfl (zA1 (v := .bool _) rfl) ?_; refine zAg rfl rfl (rfl) ?_; refine zA rfl (zA1 (v := .slice _ _ _) rfl) ?_; refine zAg rfl rfl (rfl) ?_; refine zA rfl (zA1 (v := .slice _ _ _) rfl) ?_; refine zAg rfl rfl (rfl) ?_; refine zAb rfl en55 (sameBytes_sl hs (l := y) (hs.rdOwn 0 rfl) (fun w hs => hr2 w (hs.suffix 4 rfl)) (by omega)) ?_
  clear hs; rintro _ w ⟨rfl, hs⟩; refine zA rfl (zAj (v := .bool _) rfl (rfl) rfl) ?_; refine zA rfl (zA0 (v := .bool _) rfl) ?_; refine zA6 ?_; refine zAc ?_; refine zBd (v := .bool _) rfl rfl ?_; exact ⟨_, rfl, rfl, hs.arr [1] 4 (by decide)⟩
theorem is_at {is : Bool} {s' M' i k : Nat} (his : is = decide (s' = 2)) (hz : s' = 2 ↔ M' = 0) (hM : M' + i = k) : (!is == decide ((i : Int) = (k : Int))) = false := by
  have h : decide (s' = 2) = decide ((i : Int) = (k : Int)) := decide_eq_decide.2 ⟨fun h => by have := hz.1 h; omega, fun h => hz.2 (by omega)⟩; rw [his, h]
  simp
def bAB : List UInt8 := [97, 98]
def man0 : Mf := { zC 0 bAB [] with obs := (zC 0 bAB []).obs.take 1 }
theorem man0_F : (mfF man0).1 = 0 := by decide +kernel
theorem man21_0F : mfF (zC 0 bAB []) = (0, none) := mkG_F (by decide +kernel) (by decide) (by decide)
theorem man0_up : (upF 10 man0 [bAB]).1 = 0 := by decide +kernel
theorem man0_len : (mfB man0).length ≤ 4000 := by decide +kernel
theorem man0_sum : ∀ o ∈ man0.obs, o.2.2 < 4294967296 := by decide +kernel
def osb0 : List (ByteArray × List UInt8) := osM man0 [bAB]
theorem osb0_F : OsF osb0 := by
  have h0 : osb0 = [(zDh 0 zFp 10, bAB)] := rfl; rw [h0]; refine ⟨fun n b b' h1 h2 => ?_, fun n b h => ?_, fun n b h => ?_⟩
  · simp only [List.mem_cons, Prod.mk.injEq, List.not_mem_nil, or_false] at h1 h2
    rw [h1.2, h2.2]
  · simp only [List.mem_cons, Prod.mk.injEq, List.not_mem_nil, or_false] at h
    rw [h.2]; decide
  · simp only [List.mem_cons, Prod.mk.injEq, List.not_mem_nil, or_false] at h
    rw [h.1]; decide +kernel
set_option maxRecDepth 100000 in
set_option maxHeartbeats 4000000 in
theorem first21_sl (hE : ErrU ad g) (hs : Mem g w L) : Calls Tryz.prog 8 #[] w (Ret fun v w' => v = .bool true ∧ Mem g w' L) := by
  refine zAi Tryz.func8 rfl rfl ?_
  skip
  refine zA3 (zA2 ?_); refine zA rfl (zA0 (v := .bool _) rfl) ?_; refine zA6 (zA3 (zA2 ?_)); refine zAb rfl en10 (newd_sl hs (r := 65536) (by decide) (by decide)) ?_; clear hs; rintro _ w ⟨d, rfl, hs⟩; refine zA rfl (zA1 (v := .tuple _) rfl) ?_; refine zA rfl (zAa (v := .pointer (some _)) rfl rfl) ?_; refine zA rfl (zAa (v := .nilIface) rfl rfl) ?_; refine zA rfl (zA0 (v := .pointer (some _)) rfl) ?_; refine zA rfl (zA0 (v := .nilIface) rfl) ?_; refine zA6 ?_; refine zA3 ?_; refine zA3 (zA2 ?_); refine zA rfl (zA1 (v := .pointer (some _)) rfl) ?_; refine zA rfl (zCv uz25 rfl rfl) ?_; refine zA rfl (zA1 (v := .bool _) rfl) ?_; refine zAg rfl rfl (rfl) ?_
  refine zA rfl (zA1 (v := .nilIface) rfl) ?_; refine zAg rfl rfl (rfl) ?_; refine zA rfl (zC9 rfl) ?_; refine zA rfl (zAf (v := .bool _) rfl (rfl) rfl) ?_; refine zA6 ?_; refine zB2 rfl (rfl) ?_; refine zAd ?_; refine zA3 (zA2 ?_); refine zAb rfl en11 (new_sl hs) ?_; clear hs; rintro _ w ⟨sp, rfl, hs⟩; refine zA rfl (zA0 (v := .pointer (some _)) rfl) ?_; refine zA6 (zA3 (zA2 ?_)); refine zA rfl (zA1 (v := .pointer (some _)) rfl) ?_; refine zA rfl (zA1 (v := .pointer (some _)) rfl) ?_; refine zAb rfl en12 (opened_sl hE.uM hE.uG (hs.arr [1, 0] 2 (by decide)) (N := UpN) (B := 9000) (RawI.start (by decide)) up_mt up_sn rfl (by decide) rfl rfl (tr := 1) (by decide)) ?_; clear hs
  rintro _ w ⟨l, c, dk2, rfl, k1, k2, k3, k4, hs⟩; refine zA rfl (zA1 (v := .tuple _) rfl) ?_; refine zA rfl (zAa (v := .pointer (some _)) rfl rfl) ?_; refine zA rfl (zAa (v := .pointer (some _)) rfl rfl) ?_; refine zA rfl (zA0 (v := .pointer (some _)) rfl) ?_; refine zA rfl (zA0 (v := .pointer (some _)) rfl) ?_; refine zA6 ?_; refine zA3 ?_; refine zA3 (zA2 ?_); refine zA rfl (zA1 (v := .pointer (some _)) rfl) ?_; refine zA rfl (zCv uz32 rfl rfl) ?_; refine zA6 ?_; refine zB2 rfl (rfl) ?_; refine zAd ?_; refine zA3 (zA2 ?_); refine zB0 hs rfl ([.int .u8 97, .int .u8 98]) zCo zs5 rfl (by simp [Value.cells]) rfl rfl rfl ?_; clear hs; intro b33 w hs
  try simp only [zzs, zzz] at hs
  refine lw_constBytes hs rfl 0 rfl rfl zCo uz5 rfl ?_; clear hs; intro w hs
  try simp only [zzs, zzz] at hs
  refine zAb rfl en13 (man21_sl hs (id := 0) (x := bAB) (y := []) (by decide) (Rd.rd 0 rfl) Rd.nil (by decide) (by decide) man21_0F) ?_; clear hs; rintro _ w ⟨s1, s2, rfl, hs⟩; refine zBl hs rfl ze39 ?_; clear hs; intro b6 w hs
  try simp only [zzs, zzz] at hs
  refine zAq hs 0 rfl rfl rfl zEe rfl rfl ?_; clear hs; intro w hs
  try simp only [zzs, zzz] at hs
  refine zA6 ?_; refine zA3 ?_; obtain ⟨s2a, s2c⟩ := s2; have hcap : 2 ≤ s2c := (RdK.row (k := 3) (v := .slice s2a 2 s2c) (rows := (zC 0 bAB []).obs.map obL) 2 rfl).cap hs; obtain ⟨b2, o2, rfl⟩ := (RdK.row (k := 3) (v := .slice s2a 2 s2c) (rows := (zC 0 bAB []).obs.map obL) 2 rfl).at hs (by decide); refine zA2 ?_; refine zA rfl (zA4 (o' := 5) zCe rfl sz37 rfl rfl rfl) ?_; refine zA rfl (zA7 zDv rfl rfl (hs.cellAt 0 rfl rfl)) ?_; refine zA rfl (run_sliceToK zDv sz66 rfl rfl (hi := 1) rfl (by omega) (.inr ⟨_, _, rfl⟩)) ?_; refine zA rfl (zA4 (o' := 5) zCe rfl sz37 rfl rfl rfl) ?_; refine zB5 (v := .slice _ _ _) hs 0 rfl sz37 rfl rfl rfl rfl ?_; clear hs; intro w hs
  try simp only [zzs, zzz] at hs
  refine zA6 ?_; replace hs : Mem g w (cells b6 (mfL man0 s1 (some ⟨b2, o2, none⟩, s2c)) 39 :: zEp 2 (.slice s1.1 man0.eps.length s1.2) (man0.eps.map prL) :: zEp 3 (.slice (some ⟨b2, o2, none⟩) (zC 0 bAB []).obs.length s2c) ((zC 0 bAB []).obs.map obL) :: rd (.slice (some ⟨b33, 0, none⟩) 2 2) (zAm bAB) :: zBb c sp 1 0 :: zDl l d 3 [] 0 0 0 :: zBc d dk2 :: zB6 sp St.empty :: L) := hs; refine zA3 (zA2 ?_); refine zA rfl (zA1 (v := .pointer (some _)) rfl) ?_; refine zA rfl (zA1 (v := .pointer (some _)) rfl) ?_; refine zA rfl (zA1 (v := .pointer (some _)) rfl) ?_; refine zA rfl (zBy hs 0 (mfL man0 s1 (some ⟨b2, o2, none⟩, s2c)) rfl zCe zEe rfl rfl) ?_
  refine zB0 hs rfl ([.int .u8 97, .int .u8 98]) zCo zs5 rfl (by simp [Value.cells]) rfl rfl rfl ?_; clear hs; intro b45 w hs
  try simp only [zzs, zzz] at hs
  refine lw_constBytes hs rfl 0 rfl rfl zCo uz5 rfl ?_; clear hs; intro w hs
  try simp only [zzs, zzz] at hs
  refine zB0 hs rfl ([bV (bAB, (some ⟨b45, 0, none⟩, 2))]) zGa zs22 rfl (fun u hu => (by simp only [List.mem_cons, List.not_mem_nil, or_false] at hu; subst hu; rfl)) rfl rfl rfl ?_; clear hs; intro b47 w hs
  try simp only [zzs, zzz] at hs
  refine zAb rfl en15 (upNew_sl hE (hs.arr [7, 8, 0, 1, 2, 3, 4, 5, 6, 9] 10 (by decide)) (each := 10) (inI (by omega) (by omega)) (m := man0) (e := s1) (o := (some ⟨b2, o2, none⟩, s2c)) ⟨RdK.row 3 rfl, (RdK.row (k := 3) (v := .slice (some ⟨b2, o2, none⟩) 2 s2c) (rows := (zC 0 bAB []).obs.map obL) 4 rfl).take (hi := 1) (by decide)⟩ (by decide) (by decide) (bl := [(bAB, (some ⟨b45, 0, none⟩, 2))]) (Rd.cells 0 rfl rfl) (fun x hx => by simp only [List.mem_cons, List.not_mem_nil, or_false] at hx; subst hx; exact Rd.rd 1 rfl) (fun x hx => by simp only [List.mem_cons, List.not_mem_nil, or_false] at hx; subst hx; show 2 ≤ 1048576; decide) (is := false) (z := (0, 0, 0, 0)) (k4.jnone up_up (updF_other _ _ mt_up.symm)) (by decide)) ?_
  clear hs; rintro _ w hN; obtain ⟨u, t1, t2, xs, s3, s4, rfl, hxs, hs⟩ := hN.fine man0_up (show (0 : Int) < 2 by decide) (.inl rfl); refine zA rfl (zA1 (v := .tuple _) rfl) ?_; refine zA rfl (zAa (v := .pointer (some _)) rfl rfl) ?_; refine zA rfl (zAa (v := .nilIface) rfl rfl) ?_; refine zA rfl (zA0 (v := .pointer (some _)) rfl) ?_; refine zA rfl (zA0 (v := .nilIface) rfl) ?_; refine zA6 ?_; refine zA3 ?_; refine zA3 (zA2 ?_); refine zA rfl (zA1 (v := .pointer (some _)) rfl) ?_; refine zA rfl (zCv uz47 rfl rfl) ?_; refine zA rfl (zA1 (v := .bool _) rfl) ?_; refine zAg rfl rfl rfl ?_; refine zA rfl (zA1 (v := .nilIface) rfl) ?_; refine zAg rfl rfl rfl ?_; refine zA rfl (zC9 rfl) ?_
  refine zA rfl (zAf (v := .bool _) rfl rfl rfl) ?_; refine zA6 ?_; refine zB2 rfl (rfl) ?_; refine zAd ?_; refine zA3 ?_; refine zA3 ?_; have hU : UpOk osb0 ⟨d, l, c, man0, t1, t2, 10, xs, s3, s4⟩ := upOk_mk (each := 10) (bs := [bAB]) (by omega) hxs rfl (by decide) osb0_F (fun o h => h) (by decide); have hL : LgC ad g ⟨d, l, c, man0, t1, t2, 10, xs, s3, s4⟩ (UgN 9000 65536 ((mfB man0).length + 17)) [] [(man0.id, ⟨1, man0⟩)] [(man0.id, ⟨2, man0⟩)] := lgN hE.uM rfl (by have := man0_len; omega) (by decide) (by decide) man0_F (show man0.obs.length ≤ 1000000 by decide) man0_sum
  obtain ⟨R, hR⟩ : ∃ R, R = cells b6 (mfL man0 s1 (some ⟨b2, o2, none⟩, s2c)) 39 :: zEp 2 (.slice s1.1 man0.eps.length s1.2) (man0.eps.map prL) :: zEp 3 (.slice (some ⟨b2, o2, none⟩) (zC 0 bAB []).obs.length s2c) ((zC 0 bAB []).obs.map obL) :: L := ⟨_, rfl⟩
  replace hs : Mem g w (UpC u ⟨d, l, c, man0, t1, t2, 10, xs, s3, s4⟩ (man0.id, 0, 0, 0) false :: zBb c sp ((0 + 1 : Nat) : Int) ((0 : Nat) : Int) :: zB6 sp St.empty :: zDl l d 3 [] 0 0 0 :: zBc d dk2 :: R) := by rw [hR]; exact hs.arr [0, 9, 10, 1, 2, 5, 6, 7] 11 (by decide)
  have hosu : osU (⟨d, l, c, man0, t1, t2, 10, xs, s3, s4⟩ : UpT) = osb0 := osU_eq (xs := xs) (bs := [bAB]) hxs; refine zA2 ?_; refine zA rfl (zA0 (v := .int .i64 _) rfl) ?_; refine zA6 ?_; refine zAn ?_
  refine zBr (X := Nat) [0, 9, 10, 11, 57, 58, 59, 60, 61, 62, 63, 64, 65, 66, 67, 68, 69, 70, 71, 72, 73] (fun i => [(9, .int .i64 (i : Nat))]) (fun i w => (1 ≤ i ∧ i ≤ 6) ∧ ∃ ak s a ov V q c' n dk st M, StI osb0 [] ⟨d, l, c, man0, t1, t2, 10, xs, s3, s4⟩ true (UgN 9000 65536 ((mfB man0).length + 17)) [] [(man0.id, ⟨1, man0⟩)] [(man0.id, ⟨2, man0⟩)] s a ov V q c' n dk st M ∧ M + i = 6 ∧ Bnd (100 * i) ak st dk ∧ Mem g w (UpC u ⟨d, l, c, man0, t1, t2, 10, xs, s3, s4⟩ a ov :: zBb c sp ((0 + 1 : Nat) : Int) (ak : Nat) :: zB6 sp st :: zDl l d 3 V q c' n :: zBc d dk :: R)) (fun i => 6 - i) (1) ?_ ?_ ?_
  · exact ⟨rfl, trivial⟩
  · exact ⟨⟨by omega, by omega⟩, 0, 0, _, false, [], 0, 0, 0, dk2, St.empty, _, StI.start (PIn.empty []) (fun _ => ⟨rfl, rfl⟩) (UgN.zero k4 k1 k2), by rw [hosu]; show restM 10 osb0 + 2 + 1 = 6; decide, ⟨by decide, by decide, by decide, by decide, by simp [Dk.empty] at k3; omega⟩, hs⟩
  clear hs; rintro x ξ w hI; obtain ⟨hi, ak, s, a, ov, V, q, c', n, dk, st, M, hI, hM, hB, hs⟩ := hI; refine zA3 ?_; refine zA3 (zA2 ?_); refine zA rfl (zA1 (v := .int .i64 _) rfl) ?_; refine zA rfl (zDu rfl rfl) ?_; refine zA6 ?_; refine zB1 rfl ?_ ?_
  ·
   intro h58; have g58 := of_decide_eq_true h58; refine zAd ?_; refine zA3 ?_; refine zAn ?_; refine zA3 (zA2 ?_); refine zA rfl (zA1 (v := .pointer (some _)) rfl) ?_; refine zAb rfl en16 (upStep hE hU (K := []) (fun x hx => by cases hx) hL hI hB (by omega) (tr := 0) (by omega) hs) ?_; clear hs; rintro _ w ⟨is, y, s', a', ov', V', q', c3, n', dk', st', ak', M', rfl, hI', hB', hy, his, hle, hlt, hcl, hs⟩; obtain ⟨rfl, hM'⟩ := hcl rfl; refine zA rfl (zA1 (v := .tuple _) rfl) ?_; refine zA rfl (zAa (v := .bool _) rfl rfl) ?_; refine zA rfl (zAa (v := zAk ad _) rfl rfl) ?_; refine zA rfl (zA0 (v := .bool _) rfl) ?_; refine zA rfl (zA0 (v := zAk ad _) rfl) ?_; refine zA6 (zA3 (zA2 ?_))
   refine zA rfl (zA1 (v := zAk ad _) rfl) ?_; refine zA rfl (zAx (ad := ad) rfl) ?_; refine zA rfl (zA1 (v := .bool _) rfl) ?_; refine zAg rfl rfl (rfl) ?_; refine zA rfl (zA1 (v := .bool _) rfl) ?_; refine zAg rfl rfl (rfl) ?_; refine zA rfl (zA1 (v := .int .i64 _) rfl) ?_; refine zAg rfl rfl (rfl) ?_; refine zA rfl (zBo rfl rfl) ?_; refine zAg rfl rfl (rfl) ?_; refine zA rfl (run_neb uz4 rfl rfl) ?_; refine zA rfl (zAf (v := .bool _) rfl (rfl) rfl) ?_; refine zA6 ?_; refine zB2 rfl ((is_at (k := 5) his hI'.zero (by omega))) ?_; refine zAd ?_; refine zA2 ?_; refine zA rfl (zA1 (v := .int .i64 _) rfl) ?_; refine zA rfl (zAp rfl rfl rfl (inI (by omega) (by omega))) ?_
   refine zA rfl (zA0 (v := .int .i64 _) rfl) ?_; refine zA6 ?_; exact ⟨x + 1, by omega, ⟨⟨by omega, by omega⟩, ak', s', a', ov', V', q', c3, n', dk', st', M', hI', by omega, hB', hs⟩, ⟨rfl, trivial⟩, by repeat (first | exact Out.mix _ _ _ | refine Out.updo rfl ?_ | refine Out.upd rfl ?_ | refine Out.mixIn rfl ?_)⟩
  ·
   intro h58; have g58 := of_decide_eq_false h58; obtain rfl : s = 2 := hI.zero.2 (by omega); obtain ⟨rfl, hlg, hp, hobs, _⟩ := hI.done; subst hR; refine zBp rfl ?_; refine zA3 (zA2 ?_); refine zA rfl (zA1 (v := .pointer (some _)) rfl) ?_; refine zA rfl (zA4 (o' := 5) zCe rfl sz37 rfl rfl rfl) ?_; refine zA rfl (zA7 zDv rfl rfl (hs.cellAt 5 rfl rfl)) ?_; refine zA rfl (zAt zDv sz66 rfl rfl (i := 0) rfl (by decide) rfl) ?_; refine zA rfl (zA4 uz66 rfl sz9 rfl rfl rfl) ?_; refine zA rfl (zA7 uz9 rfl rfl ((RdK.row (k := 3) (v := .slice (some ⟨b2, o2, none⟩) 2 s2c) (rows := (zC 0 bAB []).obs.map obL) 7 rfl).cell hs (q := 0) rfl (j := 0) rfl)) ?_
   refine zAb rfl en39 (bytes_sl (hs.arr [2, 0, 1, 3, 4, 5, 6, 7] 8 (by decide)) hp.small (zDh 0 zFp 10) (o := some bAB) (hobs (zDh 0 zFp 10, bAB) (by rw [hosu]; exact List.mem_cons_self ..))) ?_; clear hs; rintro _ w ⟨a81, c81, rfl, hs⟩; obtain ⟨b81, o81, rfl, _⟩ := hs.ownCells 0 rfl (by decide); refine zA rfl (zA1 (v := .tuple _) rfl) ?_; refine zA rfl (zAa (v := .slice _ _ _) rfl rfl) ?_; refine zA rfl (zAa (v := .bool _) rfl rfl) ?_; refine zA rfl (zA0 (v := .slice _ _ _) rfl) ?_; refine zA rfl (zA0 (v := .bool _) rfl) ?_; refine zA6 (zA3 (zA2 ?_)); refine zA rfl (zA1 (v := .bool _) rfl) ?_; refine zA rfl (zA1 (v := .bool _) rfl) ?_; refine zAg rfl rfl (rfl) ?_
   refine zA rfl (zA1 (v := .slice _ _ _) rfl) ?_; refine zAg rfl rfl (rfl) ?_; refine zA rfl (run_bytesStr zCo uz5 uz9 rfl (l := bAB) rfl (fun j v hj => hs.ownAt 0 rfl hj)) ?_; refine zAg rfl rfl (rfl) ?_; refine zA rfl (run_eqs rfl rfl) ?_; refine zA rfl (zAj (v := .bool _) rfl (rfl) rfl) ?_; refine zA rfl (zA1 (v := .bool _) rfl) ?_; refine zAg rfl rfl (rfl) ?_; refine zA rfl (zA1 (v := .pointer (some _)) rfl) ?_; refine zAg rfl rfl (rfl) ?_; refine zAb rfl en19 (zE9 (hs.arr [4, 0, 1, 2, 3, 5, 6, 7, 8] 9 (by decide))) ?_; clear hs; rintro _ w ⟨v92, rfl, hs⟩; refine zAg rfl rfl (rfl) ?_; refine zAb rfl en20 (zE0 hs 0) ?_; clear hs; rintro _ w ⟨rfl, hs⟩; refine zAg rfl rfl (rfl) ?_
   refine zA rfl (zBo rfl rfl) ?_; refine zA rfl (zAj (v := .bool _) rfl (rfl) rfl) ?_; refine zA rfl (zA0 (v := .bool _) rfl) ?_; refine zA6 ?_; refine zAc ?_; refine zBd (v := .bool _) rfl rfl ?_; exact ⟨_, rfl, by rw [show Vw.state [(man0.id, (⟨2, man0⟩ : Itm))] 0 = 2 from rfl]; rfl, hs.suffix 10 rfl⟩
end
section
open Go.RowKit
attribute [local irreducible] zAk eV
variable {g w : World} {L M : List HP} {ad : Nat → Addr} {p u n q c d l id : Nat} {dk : Dk} {st : St} {x y : List UInt8} {s1 s2 s3 s4 : SA} {xs : List (List UInt8 × SA)} {V V0 V1 V2 : Vw} {K osb : List (ByteArray × List UInt8)} {a : S4} {ov cl : Bool} {t : UpT}
structure TwoOk (id : Nat) : Prop where
  h0 : mfF ⟨id, (10 : Nat), 20, 5, [(1, 10)], [(zDh id zFp 10, 0, 0), (zDh id zEf 10, 0, 0)]⟩ = (0, none)
  ne : zDh id zFp 10 ≠ zDh id zEf 10
  v1 : zBs (zDh id zFp 10).data.toList = true
  v2 : zBs (zDh id zEf 10).data.toList = true
  le : id ≤ 2147483647
theorem two1 : TwoOk 1 := ⟨by decide +kernel, by decide +kernel, by decide +kernel, by decide +kernel, by decide⟩
theorem two4 : TwoOk 4 := ⟨by decide +kernel, by decide +kernel, by decide +kernel, by decide +kernel, by decide⟩
def zFr (id : Nat) (x y : List UInt8) : List (ByteArray × List UInt8) := [(zDh id zFp 10, x), (zDh id zEf 10, y)]
theorem TwoOk.mf (h : TwoOk id) (hx : x.length ≤ 256) (hy : y.length ≤ 256) : mfF (zC id x y) = (0, none) := mkG_F h.h0 (by omega) (by omega)
theorem TwoOk.osF (h : TwoOk id) (hx : x.length ≤ 256) (hy : y.length ≤ 256) : OsF (zFr id x y) := by
  refine ⟨fun n b b' h1 h2 => ?_, fun n b h1 => ?_, fun n b h1 => ?_⟩
  · simp only [zFr, List.mem_cons, Prod.mk.injEq, List.not_mem_nil, or_false] at h1 h2
    rcases h1 with ⟨h1, rfl⟩ | ⟨h1, rfl⟩ <;> rcases h2 with ⟨h2, rfl⟩ | ⟨h2, rfl⟩
    · rfl
    · exact absurd (h1.symm.trans h2) h.ne
    · exact absurd (h2.symm.trans h1) h.ne
    · rfl
  · simp only [zFr, List.mem_cons, Prod.mk.injEq, List.not_mem_nil, or_false] at h1
    rcases h1 with ⟨_, rfl⟩ | ⟨_, rfl⟩ <;> assumption
  · simp only [zFr, List.mem_cons, Prod.mk.injEq, List.not_mem_nil, or_false] at h1
    rcases h1 with ⟨rfl, _⟩ | ⟨rfl, _⟩
    · exact h.v1
    · exact h.v2
theorem TwoOk.up (h : TwoOk id) (hx : x.length ≤ 256) (hy : y.length ≤ 256) {each : Int} (he : 1 ≤ each ∧ each ≤ 1000) : (upF each (zC id x y) [x, y]).1 = 0 :=
  upF_two he (by rw [h.mf hx hy]) rfl (obG_fine he hx h.v1 rfl rfl) (obG_fine he hy h.v2 rfl rfl)
theorem man21_sum : ∀ o ∈ (zC id x y).obs, o.2.2 < 4294967296 := fun o ho => by
  have ho : o ∈ [(zDh id zFp 10, ((x.length : Nat) : Int), zBw 0 x), (zDh id zEf 10, ((y.length : Nat) : Int), zBw 0 y)] := ho; simp only [List.mem_cons, List.not_mem_nil, or_false] at ho
  rcases ho with rfl | rfl
  · exact crcMore_lt (by decide) _
  · exact crcMore_lt (by decide) _
theorem TwoOk.fr (h : TwoOk id) (hx : x.length ≤ 256) (hy : y.length ≤ 256) : (mfB (zC id x y)).length + 17 ≤ 6021 := by
  have h1 := frame_le (q := 0) (e := (1, zC id x y)) ⟨h.mf hx hy, (show (1 : Int) ≤ 1 by decide), (show (1 : Int) ≤ 4 by decide), man21_sum⟩; rw [frame_len] at h1; exact h1
theorem TwoOk.upOk (h : TwoOk id) (hx : x.length ≤ 256) (hy : y.length ≤ 256) {e : Nat} (he : 1 ≤ e ∧ e ≤ 1000) (hxs : xs.map (·.1) = [x, y]) (hO : OsF osb) (hs : ∀ o ∈ zFr id x y, o ∈ osb) : UpOk osb ⟨d, l, c, zC id x y, s1, s2, e, xs, s3, s4⟩ :=
  upOk_mk (each := ((e : Nat) : Int)) (bs := [x, y]) (by omega) hxs rfl (by simp) hO hs ⟨by show (0 : Int) ≤ ((id : Nat) : Int); omega, by have := h.le; show ((id : Nat) : Int) ≤ _; omega⟩
theorem two_osU {e : Nat} (hxs : xs.map (·.1) = [x, y]) : osU ⟨d, l, c, zC id x y, s1, s2, e, xs, s3, s4⟩ = zFr id x y := osU_eq (xs := xs) (bs := [x, y]) hxs
theorem TwoOk.lg (h : TwoOk id) (hM : ErrM ad g) (hx : x.length ≤ 256) (hy : y.length ≤ 256) {e : Nat} : LgC ad g ⟨d, l, c, zC id x y, s1, s2, e, xs, s3, s4⟩ (UgN 20000 262144 ((mfB (zC id x y)).length + 17)) [] [((id : Int), ⟨1, zC id x y⟩)] [((id : Int), ⟨2, zC id x y⟩)] :=
  lgN (t := ⟨d, l, c, zC id x y, s1, s2, e, xs, s3, s4⟩) hM rfl (by have := h.fr hx hy; omega) (by decide) (by decide) (by rw [h.mf hx hy]) (show 2 ≤ 1000000 by decide) man21_sum
theorem zG6 {α : Type} {P : α → Prop} {z1 z2 : α} (h1 : P z1) (h2 : P z2) : ∀ z ∈ [z1, z2], P z := fun z hz => by
  simp only [List.mem_cons, List.not_mem_nil, or_false] at hz
  rcases hz with rfl | rfl
  · exact h1
  · exact h2
theorem quo_parts (n e : Nat) : ((n : Int) + ((e + 1 : Nat) : Int) - 1) / ((e + 1 : Nat) : Int) = ((zB3 n (e + 1) : Nat) : Int) := by
  have h : (n : Int) + ((e + 1 : Nat) : Int) - 1 = ((n + (e + 1) - 1 : Nat) : Int) := by omega
  rw [h]
  rfl
theorem two_max {e done P1 P2 : Nat} (h : done = 0 ∨ ∃ o ∈ zFr id x y, done ≤ zB3 o.2.length (e + 1)) (h1 : P1 = zB3 x.length (e + 1)) (h2 : P2 = zB3 y.length (e + 1)) : done ≤ max P1 P2 := by
  rcases h with rfl | ⟨o, ho, h⟩
  · exact Nat.zero_le _
  · simp only [zFr, List.mem_cons, List.not_mem_nil, or_false] at ho
    rcases ho with rfl | rfl
    · simp only at h; omega
    · simp only at h; omega
theorem is_atW {is : Bool} {s' M' i : Nat} {k : Int} (his : is = decide (s' = 2)) (hz : s' = 2 ↔ M' = 0) (hM : ((M' : Nat) : Int) + (i : Nat) = k) : (!is == decide ((i : Int) = k)) = false := by
  have h : decide (s' = 2) = decide ((i : Int) = k) := decide_eq_decide.2 ⟨fun h => by have := hz.1 h; omega, fun h => hz.2 (by omega)⟩; rw [his, h]
  simp
theorem StI.at {Lg : Nat → Vw → Nat → Nat → Nat → Dk → Prop} {s M0 : Nat} (hU : UpOk osb t) (h : StI osb K t cl Lg V0 V1 V2 s a ov V q c n dk st M0) (hs : s ≠ 2) : ∃ (k done : Nat) (uid : Int), a = (t.m.id, (k : Int), uid, (done : Int)) ∧ k ≤ t.xs.length ∧ (done = 0 ∨ ∃ o ∈ osU t, done ≤ zB3 o.2.length t.each) := by
  obtain ⟨_, _, ⟨rfl, _, rfl, _⟩ | ⟨rfl, _, M1, hob, _⟩ | ⟨rfl, _⟩⟩ := h
  · exact ⟨0, 0, 0, rfl, Nat.zero_le _, .inl rfl⟩
  · rcases hob with ⟨k, o, uid, done, m, ho, rfl, _, hph, _⟩ | ⟨rfl, _⟩
    · have h1 := (List.getElem?_eq_some_iff.1 ho).1
      rw [osU_len hU] at h1; exact ⟨k, done, uid, rfl, by omega, .inr ⟨o, List.mem_of_getElem? ho, hph.le.2.2.1⟩⟩
    · rw [osU_len hU]
      exact ⟨_, 0, 0, rfl, Nat.le_refl _, .inl rfl⟩
  · exact absurd rfl hs
end
section
open Go.RowKit Go.MapKept Go.Maps Go.Sort Go.Shelf Go.WideElems
attribute [local irreducible] zAk
variable {g w : World} {L M : List HP} {ad : Nat → Addr} {p q : Nat} {st : St}
theorem sortedI_any {W : World} {kb b : Nat} {es : List (Int × Value)} (hc : W.cell? ⟨kb, 0, none⟩ = some (.map (some b))) (hkb : kb < W.heap.size) (h : zE3 W (Value.int .i64) b es) (hk : ∀ x ∈ zAh es, zDf x) (hn : es.length ≤ 1000000) :
    Calls Tryz.prog 63 #[.func (.func 106) #[] #[.pointer (some ⟨kb, 0, none⟩)]] W (NewSeq W (zCi (sortI (zAh es)))) := by
  obtain ⟨l, hown, hp⟩ := keys_owned (k := 3) (lit := Lit.int .i64) h (fun x hx => keyOf_int (hk x hx)) hn
  have hl : l.length = es.length := by have := hp.length_eq; simpa [zAh] using this
  have hseq : SeqGives Fence.wide 2 Tryz.prog 106 #[.pointer (some ⟨kb, 0, none⟩)] encZ (fun ss => ss.Perm (intKeys (.map l))) (Maps.size (.map l)) W :=
    AnyZI.keys_gives (ρ := Tryz.keys64_ren) { Tryz.keys64 with } Fence.wide _ trivial rfl (by omega) kb b _ _ W hkb hc hown
  have hS := AnyZI.sorted_in Tryz.sorted63 Fence.wide 5 trivial trivial trivial trivial rfl (by omega) (sortsI _) (enters_of Tryz.func105 (by kernel_rfl) rfl) 106 #[.pointer (some ⟨kb, 0, none⟩)] trivial (enters_of Tryz.func106 (by kernel_rfl) rfl) _ _ (by show l.length ≤ maxLen; unfold maxLen; omega) (by show l.length * 8 ≤ _; omega) W hseq; refine (callsIn_wide.1 hS).mono ?_; rintro e w' ⟨v, ss, rfl, hss, hrow, _, hb⟩
  have e1 : ss.Perm (zAh es) := by
    refine hss.trans ?_
    have h2 : intKeys (.map l) = (l.map (·.1)).map Go.intOf := by simp [intKeys, List.map_map, Function.comp_def]
    rw [h2]; refine (hp.map _).trans ?_; rw [List.map_map]; exact List.Perm.of_eq (by simp [Function.comp_def, Go.intOf])
  rw [perm_sortI e1] at hrow; exact newSeq_of_row hrow hb
theorem keysI_sl (hs : Mem g w L) {b : Nat} : Calls Tryz.prog 64 #[.map (some b)] w (Ret fun v w' => ∃ kb, v = .func (.func 106) #[] #[.pointer (some ⟨kb, 0, none⟩)] ∧ Mem g w' (cells kb [.map (some b)] 90 :: L)) := by
  refine (callsIn_wide.1 (Go.Proofs.AnyZI.keys_in Tryz.keys64 Fence.wide 5 trivial rfl (some b) w)).mono ?_; rintro e w' ⟨rfl, rfl⟩; exact ⟨_, rfl, _, rfl, hs.new [.map (some b)] _⟩
theorem sortedI_sl (hs : Mem g w L) {kb b i j : Nat} {es : List (Int × Value)} (hi : L[i]? = some (cells kb [.map (some b)] 90)) (hj : L[j]? = some (mapC (Value.int .i64) b es)) (hk : ∀ x ∈ zAh es, zDf x) (hn : es.length ≤ 1000000) :
    Calls Tryz.prog 63 #[.func (.func 106) #[] #[.pointer (some ⟨kb, 0, none⟩)]] w (Ret fun v w' => ∃ a c, v = .slice a (sortI (zAh es)).length c ∧ Mem g w' (own (.slice a (sortI (zAh es)).length c) (zCi (sortI (zAh es))) :: L)) := by
  obtain ⟨F, hblk, _⟩ := hs.read hi; have hc := hs.cellAt i hi (o := 0) (v := .map (some b)) rfl; refine (newSeq_sl hs (sortedI_any hc (lt_of_block hblk) (hs.mapAt j hj) hk hn)).mono ?_; rintro e w' ⟨v, rfl, a, c, rfl, h⟩; rw [show (zCi (sortI (zAh es))).length = (sortI (zAh es)).length by simp [zCi]] at h ⊢; exact ⟨_, rfl, a, c, rfl, h⟩
theorem open_sl (hs : Mem g w (zB6 p st :: L)) (hk : ∀ x ∈ zAh st.ups, zDf x) (hn : st.ups.length ≤ 1000000) : Calls Tryz.prog 31 #[.pointer (some ⟨p, 0, none⟩)] w
    (Ret fun v w' => ∃ a c, v = .slice a (sortI (zAh st.ups)).length c ∧ Mem g w' (own (.slice a (sortI (zAh st.ups)).length c) (zCi (sortI (zAh st.ups))) :: zB6 p st :: L)) := by
  obtain ⟨mo, mu, sa, sn, sc, es, us, hn2, hs⟩ := hs.openS; simp only [zCh, List.cons_append, List.nil_append] at hs; have hky := hs.famKeys 4 rfl
  have he : zAh (us.map zG5) = zAh st.ups := by rw [up_keys]; exact hky
  have hl : (us.map zG5).length = st.ups.length := by have := congrArg List.length he; simpa [zAh] using this
  rw [← he]; rw [← he] at hk; rw [← hl] at hn; refine zAi Tryz.func31 rfl rfl ?_
  skip
  refine zA3 (zA2 ?_); refine zA rfl (zA0 (v := .slice _ _ _) rfl) ?_; refine zA6 (zA3 (zA2 ?_)); refine zA rfl (zA1 (v := .pointer (some _)) rfl) ?_; refine zA rfl (zA8 rfl) ?_; refine zA rfl (zA4 (o' := 1) uz92 rfl sz90 rfl rfl rfl) ?_; refine zA rfl (zA7 uz90 rfl rfl (hs.cellAt 0 rfl rfl)) ?_; refine zAb rfl en64 (keysI_sl hs) ?_; clear hs; rintro _ w ⟨kb, rfl, hs⟩; refine zAb rfl en63 (sortedI_sl hs (i := 0) (j := 4) rfl rfl hk hn) ?_; clear hs; rintro _ w ⟨a8, c8, rfl, hs⟩; refine zA rfl (zA0 (v := .slice _ _ _) rfl) ?_; refine zA6 ?_; refine zAc ?_; refine zBd (v := .slice _ _ _) rfl rfl ?_; exact ⟨_, rfl, a8, c8, rfl, (hs.drop 1).closeS1⟩
theorem open_none (hs : Mem g w (zB6 p st :: L)) (h : st.ups = []) : Calls Tryz.prog 31 #[.pointer (some ⟨p, 0, none⟩)] w
    (Ret fun v w' => ∃ a c, v = .slice a 0 c ∧ Mem g w' (own (.slice a 0 c) [] :: zB6 p st :: L)) := by
  have := open_sl hs (fun x hx => by rw [h] at hx; simp [zAh] at hx) (by rw [h]; simp); rw [h] at this
  simpa [zAh, sortI, zCi] using this
end
section
set_option maxRecDepth 100000
theorem headMay : Tryz.prog.mayEnter = true := by kernel_rfl
theorem headLifts : (Rows.upTwoRow.lifted == Tryz.prog.liftsFinal) = true := by kernel_rfl
theorem headMake : (Tryz.prog.make == some Rows.upTwoRow.make) = true := by kernel_rfl
theorem both_true {a b : Bool} (ha : a = true) (hb : b = true) : (a && b) = true := by rw [ha, hb]; rfl
end
end Go.Proofs.YthejaanobeonnaaGreatDoor
